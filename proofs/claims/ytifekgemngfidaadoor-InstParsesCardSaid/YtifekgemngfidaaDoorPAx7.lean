-- Printed for this claim by wip/tools/xprint.py over the kit's print; the contracts marked BY HAND are this session's own.
import Derived.Test.YtifekgemngfidaaDoorPAx0
import Derived.Test.YtifekgemngfidaaDoorPAx3
namespace Go.Proofs.YtifekgemngfidaaDoor.PA
open Go.RowKit Go.Proofs.YtifekgemngfidaaDoorW.PrintWords Go.Proofs.YtifekgemngfidaaDoorW.PrintLast Go.Proofs.YtifekgemngfidaaDoorW.PrintMore
attribute [local go_sem] max2_int min2_int max_two min_two max_three min_three max_four min_four   -- for this text's walks alone
set_option linter.unusedVariables false
set_option linter.unusedSimpArgs false

/-! ### inst_line: function 25 -/
def inst_line.f (a0_0 : Int) (a0_1 : Int) (a0_2 : Int) (a0_3 : Int) (a0_4 : Int) (a0_5 : Int) : Option (List Int) := some (([a0_0, a0_1, a0_2, a0_3, a0_4, a0_5] : List Int))
set_option maxHeartbeats 8000000 in
set_option maxRecDepth 100000 in
theorem inst_line.calls (a0_0 : Int) (a0_1 : Int) (a0_2 : Int) (a0_3 : Int) (a0_4 : Int) (a0_5 : Int) (r : List Int) (w : World) (h : inst_line.f a0_0 a0_1 a0_2 a0_3 a0_4 a0_5 = some r) :
    Calls Tryd.prog 25 #[.agg #[.int .i64 a0_0, .int .i64 a0_1, .int .i64 a0_2, .int .i64 a0_3, .int .i64 a0_4, .int .i64 a0_5]] w fun e w' => ∃ v0_ : Value, e = .returned (v0_) ∧ Kd.R (Kd.int .i64) 3 w' w.heap.size (fun _ => True) v0_ r ∧ Below w.heap.size w w' := by
  have hu34 := Tryd.underlying34
  have HB := Aside0.mk (Below.refl w.heap.size w)
  have H : (some (([a0_0, a0_1, a0_2, a0_3, a0_4, a0_5] : List Int))) = some r := h
  clear h
  obtain ⟨y171, hy171⟩ : ∃ y_ : List Int, y_ = (([a0_0, a0_1, a0_2, a0_3, a0_4, a0_5] : List Int)) := ⟨_, rfl⟩
  replace H : (some y171) = some r := by first | (rw [hy171]; with_reducible exact H) | (have H2_ := (Option.bind_some _ _).symm.trans H; rw [hy171]; with_reducible exact H2_) | (have H2_ := (Option.bind_some _ _).symm.trans H; with_reducible exact H2_) | with_reducible exact H | (rw [hy171]; exact H) | exact H
  have Ny171 := Aside0.mk hy171
  clear hy171
  obtain rfl := Option.some.inj H
  go_enter Tryd.func25, Tryd.ntmps25
  go_wp2_with (first | ((with_reducible refine gate_dst (N := 1) rfl ?_); refine box_event ?hg (N := 1) ?hd (cs := #[.int .i64 a0_0, .int .i64 a0_1, .int .i64 a0_2, .int .i64 a0_3, .int .i64 a0_4, .int .i64 a0_5]) (t := 34) ?hr ?_; (case hd => rfl); (case hg => rfl); (case hr => first | (go_simp; done) | (go_simp; rfl)); intro gb170 hg w2 hbox hb; have n0_ := Aside0.mk (below_step (by repeat (first | (with_reducible first | exact HB.out | apply below_alloc | apply pw_below_drewN | apply below_drew1) | exact HB.out)) hb); have n1_ := Aside0.mk (hbox); have n2_ := Aside0.mk ((by rw [hg]; exact (below_size (by repeat (first | (with_reducible first | exact HB.out | apply below_alloc | apply pw_below_drewN | apply below_drew1) | exact HB.out))) : w.heap.size ≤ gb170)); have n3_ := Aside0.mk ((by rw [hg]; exact (below_size (by repeat (first | (with_reducible first | exact HB.out | apply below_alloc | apply pw_below_drewN | apply below_drew1) | exact HB.out))) : w.heap.size ≤ gb170)); clear HB; have HB := n0_; have BK170 := n1_; have GW170 := n2_; have GE170 := n3_; clear n0_ n1_ n2_ n3_; clear hb hbox hg; have hcz3_0 : w2.cell? ⟨gb170, 0, none⟩ = some (.int .i64 a0_0) := (blk_cell BK170.out 0).trans rfl; have hcz3_1 : w2.cell? ⟨gb170, 1, none⟩ = some (.int .i64 a0_1) := (blk_cell BK170.out 1).trans rfl; have hcz3_2 : w2.cell? ⟨gb170, 2, none⟩ = some (.int .i64 a0_2) := (blk_cell BK170.out 2).trans rfl; have hcz3_3 : w2.cell? ⟨gb170, 3, none⟩ = some (.int .i64 a0_3) := (blk_cell BK170.out 3).trans rfl; have hcz3_4 : w2.cell? ⟨gb170, 4, none⟩ = some (.int .i64 a0_4) := (blk_cell BK170.out 4).trans rfl; have hcz3_5 : w2.cell? ⟨gb170, 5, none⟩ = some (.int .i64 a0_5) := (blk_cell BK170.out 5).trans rfl; have hfz3_0 := blk_frozen BK170.out 0; have hfz3_1 := blk_frozen BK170.out 1; have hfz3_2 := blk_frozen BK170.out 2; have hfz3_3 := blk_frozen BK170.out 3; have hfz3_4 := blk_frozen BK170.out 4; have hfz3_5 := blk_frozen BK170.out 5) | ((with_reducible refine gate_dst (N := 15) rfl ?_); refine Kd.R_lit (Kd.int .i64) _ 3 ?hg (N := 15) ?hd (xs := ([a0_0, a0_1, a0_2, a0_3, a0_4, a0_5] : List Int)) (inner := [.int .i64 a0_0, .int .i64 a0_1, .int .i64 a0_2, .int .i64 a0_3, .int .i64 a0_4, .int .i64 a0_5]) (ok := fun _ => True) (okp := fun _ => True) ?hr ?hp (fun _ hk => hk) trivial (Below.refl _ _) (Nat.le_refl _) (by simp) ?_; (case hd => rfl); (case hg => rfl); (case hr => first | (go_simp; done) | (go_simp; rfl)); (case hp => exact (Reps.one (show Kd.M (Kd.int .i64) _ _ _ a0_0 [.int .i64 a0_0] from rfl) (Reps.one (show Kd.M (Kd.int .i64) _ _ _ a0_1 [.int .i64 a0_1] from rfl) (Reps.one (show Kd.M (Kd.int .i64) _ _ _ a0_2 [.int .i64 a0_2] from rfl) (Reps.one (show Kd.M (Kd.int .i64) _ _ _ a0_3 [.int .i64 a0_3] from rfl) (Reps.one (show Kd.M (Kd.int .i64) _ _ _ a0_4 [.int .i64 a0_4] from rfl) (Reps.one (show Kd.M (Kd.int .i64) _ _ _ a0_5 [.int .i64 a0_5] from rfl) (Reps.none _ _)))))))); intro v172 w4 ho5 hb hg_ hnew_; clear hg_ hnew_; (first | rw [← Ny171.out] at ho5 | (simp only [Int.reduceToNat] at ho5; rw [← Ny171.out] at ho5)); have n0_ := Aside0.mk (Kd.R_lower ho5 (below_size (by repeat (first | (with_reducible first | exact HB.out | apply below_alloc | apply pw_below_drewN | apply below_drew1 | refine below_set ?_ GE170.out) | exact HB.out)))); have n1_ := Aside0.mk (blk_below (g := gb170) (o := .cells #[.int .i64 a0_0, .int .i64 a0_1, .int .i64 a0_2, .int .i64 a0_3, .int .i64 a0_4, .int .i64 a0_5] 34 (0, 0)) (by (with_reducible repeat (first | refine blk_drewN ?_ _ | refine blk_drew ?_ | refine blk_alloc ?_ _)); exact BK170.out) hb); have n2_ := Aside0.mk (below_step (by repeat (first | (with_reducible first | exact HB.out | apply below_alloc | apply pw_below_drewN | apply below_drew1 | refine below_set ?_ GE170.out) | exact HB.out)) hb); clear BK170; clear HB; have HO173 := n0_; have BK170 := n1_; have HB := n2_; clear n0_ n1_ n2_; clear hb ho5))
  go_ret
  exact ⟨_, by first | rfl | (simp [errW_none, errW_some] <;> rfl) | (simp [*, errW_none, errW_some] <;> rfl), by (with_reducible repeat (first | apply Kd.R_alloc | apply Kd.R_drewN | apply Kd.R_drew)); exact HO173.out, by repeat (first | (with_reducible first | exact HB.out | apply below_alloc | apply pw_below_drewN | apply below_drew1 | refine below_set ?_ GE170.out) | exact HB.out)⟩

/-! ### scan_Print: function 26, BY HAND -/
open Go.Proofs.YtifekgemngfidaaDoor.Scan in
def scan_Print.Ok (l0 : List (List Int)) : Prop := (textP l0).length ≤ 70368744177664 ∧ ∀ l ∈ l0, ∀ n ∈ l, (-9223372036854775808 : Int) ≤ n ∧ n ≤ 9223372036854775807
open Go.Proofs.YtifekgemngfidaaDoor.Scan in
instance (l0 : List (List Int)) : Decidable (scan_Print.Ok l0) := by unfold scan_Print.Ok; infer_instance
open Go.Proofs.YtifekgemngfidaaDoor.Scan in
def scan_Print.f (l0 : List (List Int)) : Option (List Int) := if scan_Print.Ok l0 then some (textP l0) else none
theorem hidP {p : Prop} (h : p) : Hid p := h
theorem rd_row_at {l : List (List Int)} {i : Nat} (h : i < l.length) : rd_L3 l (i : Int) = l[i] := by unfold rd_L3; simp [List.getD, List.getElem?_eq_getElem h]
theorem rd_atP {b : List Int} {i : Nat} (h : i < b.length) : rd b (i : Int) = b[i] := by unfold rd; simp [List.getD, List.getElem?_eq_getElem h]
set_option maxHeartbeats 4000000 in
set_option maxRecDepth 100000 in
open Go.Proofs.YtifekgemngfidaaDoor.Scan in
theorem scan_Print.calls (A0 : Option Addr) (c0 : Nat) (l0 : List (List Int)) (r : List Int) (w : World) (hr0 : Kd.C (Kd.slice 3 (Kd.int .i64)) w A0 l0.length l0) (hc0 : l0.length ≤ c0) (h : scan_Print.f l0 = some r) (hT : NumTab w) :
    Calls Tryd.prog 26 #[.slice A0 l0.length c0] w fun e w' => ∃ v0_ : Value, e = .returned (v0_) ∧ Kd.R (Kd.int .u8) 5 w' w.heap.size (fun _ => True) v0_ r ∧ Below w.heap.size w w' := by
  unfold scan_Print.f at h
  split at h
  case isFalse => cases h
  case isTrue hok =>
  obtain rfl := Option.some.inj h
  obtain ⟨hL, hN⟩ := hok
  have hmax0 := Kd.C_max hr0
  have HR0 := hidP hr0
  have HC0 := hidP hc0
  have HT := hidP hT
  have HL := hidP hL
  have HN := hidP hN
  clear hr0 hc0 hT hL hN h
  go_enter Tryd.func26, Tryd.ntmps26
  go_wp2
  go_loopg [3, 10] (l0.length + 1) (fun kq v3 v10 wr => ∃ (i : Nat), Hid (kq = l0.length + 1 - i) ∧ v10 = .int .i64 (i : Int) ∧ i ≤ l0.length ∧ Hid (Kd.R (Kd.int .u8) 5 wr w.heap.size (fun _ => True) v3 (textP (l0.take i))) ∧ Hid (Below w.heap.size w wr))
  case atStart => exact ⟨0, hidP rfl, rfl, by omega, hidP (Kd.R_nil _ _ _ _ _), hidP (Below.refl _ _)⟩
  case round =>
    obtain ⟨i, HI, rfl, hi, HO, HB⟩ := hrel
    by_cases hlt : i < l0.length
    · have t1 : decide ((i : Int) < (l0.length : Int)) = true := decide_eq_true (by omega)
      have t1n : decide (i < l0.length) = true := decide_eq_true (by omega)
      obtain ⟨ad, A1, c1, e1, hx1, hl1, hi1⟩ := at_L3 HR0.out (i : Int) (by omega) (by omega)
      cases e1
      have p1 : (0 ≤ (i : Int)) = True := eq_true (by omega)
      have q1 : ((i : Int) < (l0.length : Int)) = True := eq_true (by omega)
      rw [rd_row_at hlt] at hx1 hl1 hi1
      rw [Int.toNat_natCast] at hx1
      have hx1' := (HB.out.cell (World.block_lt_of_cell? w _ hx1)).trans hx1
      have hmax1 := Kd.C_max hi1
      have HI1 := hidP hi1
      have HL1 := hidP hl1
      obtain ⟨line, hline⟩ : ∃ line, line = l0[i] := ⟨_, rfl⟩
      rw [← hline] at hx1 hx1' HI1 HL1 hmax1
      have HLINE := hidP hline
      clear hi1 hl1 hx1 hline
      go_wp2
      go_loopg [3, 16] (line.length + 1) (fun kq v3 v16 wr1 => ∃ (j : Nat), Hid (kq = line.length + 1 - j) ∧ v16 = .int .i64 (j : Int) ∧ j ≤ line.length ∧ Hid (Kd.R (Kd.int .u8) 5 wr1 w.heap.size (fun _ => True) v3 (textP (l0.take i) ++ sepI (line.take j))) ∧ Hid (Below w.heap.size w wr1))
      case atStart => exact ⟨0, hidP rfl, rfl, by omega, hidP (by have := HO.out; simpa [sepI] using this), HB⟩
      case round =>
        clear HO HB hx1'
        obtain ⟨j, HJ, rfl, hj, HO, HB⟩ := hrel
        by_cases hlj : j < line.length
        · have s1 : decide ((j : Int) < (line.length : Int)) = true := decide_eq_true (by omega)
          have s1n : decide (j < line.length) = true := decide_eq_true (by omega)
          obtain ⟨ad2, e2, hx2⟩ := Kd.at_int HI1.out (j : Int) (by omega) (by omega)
          cases e2
          rw [rd_atP hlj] at hx2
          rw [Int.toNat_natCast] at hx2
          have hx2' := (HB.out.cell (World.block_lt_of_cell? w _ hx2)).trans hx2
          have p2 : (0 ≤ (j : Int)) = True := eq_true (by omega)
          have q2 : ((j : Int) < (line.length : Int)) = True := eq_true (by omega)
          obtain ⟨n, hn⟩ : ∃ n, n = line[j] := ⟨_, rfl⟩
          rw [← hn] at hx2 hx2'
          clear hx2
          have hlen := textP_line_le hlt j
          rw [← HLINE.out] at hlen
          have hlen2 := HL.out
          have hrange := HN.out line (by rw [HLINE.out]; exact List.getElem_mem hlt) n (by rw [hn]; exact List.getElem_mem hlj)
          have hout : (if line.take j = [] then [] else sepI (line.take j) ++ [32]) ++ itoaI n = sepI (line.take (j + 1)) := by rw [List.take_succ_eq_append_getElem hlj, sepI_snoc, hn]
          have HOUT := hidP hout
          obtain ⟨xs, hxs⟩ : ∃ xs, xs = textP (l0.take i) ++ sepI (line.take j) := ⟨_, rfl⟩
          have hxl : xs.length ≤ 70368744177664 := by rw [hxs, List.length_append]; omega
          rw [← hxs] at HO
          have HXS := hidP hxs
          have HXL := hidP hxl
          obtain ⟨hr1, hr2⟩ := hrange
          have HR1 := hidP hr1
          have HR2 := hidP hr2
          clear hn hxs hxl hlen hlen2 hout hr1 hr2
          by_cases h0 : 0 < j
          · have g1 : decide (0 < (j : Int)) = true := decide_eq_true (by omega)
            have g1n : decide (0 < j) = true := decide_eq_true h0
            go_wp2_with (first
              | ((with_reducible refine gate_builtin (b := .append) (xs := #[.tmp 23, .tmp 24]) rfl ?_); at_builtin; refine Kd.R_append (Kd.int .u8) (w0 := w) w.heap.size rfl (.tmp 23) (.tmp 24) 22 5 (.int .u8 0) 1 rfl Tryd.underlying22 info5 rfl (by decide) (by omega) u3 xs 32 [.int .u8 32] (fun _ => True) (fun _ => False) rfl rfl ?aP (fun _ hk => hk.elim) (fun _ _ => trivial) ?aO ?aB ?aS ?aL ?_; (case aP => exact rfl); (case aO => exact HO.out); (case aB => exact HB.out); (case aS => exact HB.out.size); (case aL => have := HXL.out; omega); intro v25 w25 ho25 hb25 hg25 hat25; have HO25 := hidP ho25; have HB25 := hidP hb25; clear ho25 hb25 hg25 hat25)
              | (go_at_call 35; (with_reducible refine (append_int _ (xs ++ [32]) n HR1.out HR2.out w _ HT.out HB25.out HO25.out (by have := HXL.out; simp; omega)).mono ?_); rintro e w26 ⟨v26, rfl, ho26, hb26⟩; have HO26 := hidP ho26; have HB26 := hidP hb26; clear ho26 hb26))
            go_roundg (line.length + 1 - (j + 1))
            case measure => have := HJ.out; omega
            case rel => exact ⟨j + 1, hidP rfl, by go_num, by omega, hidP (by have h1 := HO26.out; have h2 := HOUT.out; have h3 := HXS.out; rw [if_neg (by intro h; have := congrArg List.length h; rw [List.length_take] at this; simp only [List.length_nil] at this; omega)] at h2; rw [← h2]; rw [h3] at h1; simpa using h1), HB26⟩
          · have g1 : decide (0 < (j : Int)) = false := decide_eq_false (by omega)
            have g1n : decide (0 < j) = false := decide_eq_false h0
            go_wp2_with (first
              | (go_at_call 35; (with_reducible refine (append_int _ xs n HR1.out HR2.out w _ HT.out HB.out HO.out (by have := HXL.out; omega)).mono ?_); rintro e w26 ⟨v26, rfl, ho26, hb26⟩; have HO26 := hidP ho26; have HB26 := hidP hb26; clear ho26 hb26))
            go_roundg (line.length + 1 - (j + 1))
            case measure => have := HJ.out; omega
            case rel => exact ⟨j + 1, hidP rfl, by go_num, by omega, hidP (by have h1 := HO26.out; have h2 := HOUT.out; have h3 := HXS.out; obtain rfl : j = 0 := (by omega); rw [← h2]; rw [h3] at h1; simpa [sepI] using h1), HB26⟩
        · have s1 : decide ((j : Int) < (line.length : Int)) = false := decide_eq_false (by omega)
          have s1n : decide (j < line.length) = false := decide_eq_false (by omega)
          obtain rfl : j = line.length := by omega
          have hlen := textP_line_le hlt line.length
          rw [← HLINE.out] at hlen
          have hlen2 := HL.out
          have HTS : Hid (textP (l0.take (i + 1)) = textP (l0.take i) ++ lineP line) := hidP (by rw [List.take_succ_eq_append_getElem hlt, textP_snoc, ← HLINE.out])
          have HTK : Hid (line.take line.length = line) := hidP (by simp)
          obtain ⟨xs, hxs⟩ : ∃ xs, xs = textP (l0.take i) ++ sepI (line.take line.length) := ⟨_, rfl⟩
          have hxl : xs.length ≤ 70368744177664 := by rw [hxs, List.length_append]; omega
          rw [← hxs] at HO
          have HXS := hidP hxs
          have HXL := hidP hxl
          clear hxs hxl hlen hlen2
          by_cases h0 : 0 < line.length
          · have g1 : decide (0 < (line.length : Int)) = true := decide_eq_true (by omega)
            have g1n : decide (0 < line.length) = true := decide_eq_true h0
            go_wp2_with (first
              | ((with_reducible refine gate_builtin (b := .append) (xs := #[.tmp 33, .tmp 34]) rfl ?_); at_builtin; refine Kd.R_append (Kd.int .u8) (w0 := w) w.heap.size rfl (.tmp 33) (.tmp 34) 22 5 (.int .u8 0) 1 rfl Tryd.underlying22 info5 rfl (by decide) (by omega) u3 xs 10 [.int .u8 10] (fun _ => True) (fun _ => False) rfl rfl ?aP (fun _ hk => hk.elim) (fun _ _ => trivial) ?aO ?aB ?aS ?aL ?_; (case aP => exact rfl); (case aO => exact HO.out); (case aB => exact HB.out); (case aS => exact HB.out.size); (case aL => have := HXL.out; omega); intro v25 w25 ho25 hb25 hg25 hat25; have HO25 := hidP ho25; have HB25 := hidP hb25; clear ho25 hb25 hg25 hat25))
            go_roundg (l0.length + 1 - (i + 1))
            case measure => have := HI.out; omega
            case rel => exact ⟨i + 1, hidP rfl, by go_num, by omega, hidP (by have h1 := HO25.out; have h2 := HXS.out; have h3 := HTS.out; rw [h3]; rw [h2, HTK.out] at h1; unfold lineP; rw [if_neg (by intro h; rw [h] at h0; simp at h0)]; simpa using h1), HB25⟩
          · have g1 : decide (0 < (line.length : Int)) = false := decide_eq_false (by omega)
            have g1n : decide (0 < line.length) = false := decide_eq_false h0
            go_wp2
            go_roundg (l0.length + 1 - (i + 1))
            case measure => have := HI.out; omega
            case rel => exact ⟨i + 1, hidP rfl, by go_num, by omega, hidP (by have h1 := HO.out; have h2 := HXS.out; have h3 := HTS.out; have h4 : line = [] := List.length_eq_zero_iff.mp (by omega); rw [h3]; rw [h2, HTK.out] at h1; rw [h4] at h1 ⊢; simpa [lineP, sepI] using h1), HB⟩
    · have t1 : decide ((i : Int) < (l0.length : Int)) = false := decide_eq_false (by omega)
      have t1n : decide (i < l0.length) = false := decide_eq_false (by omega)
      obtain rfl : i = l0.length := by omega
      have HTK : Hid (l0.take l0.length = l0) := hidP (by simp)
      go_wp2
      go_ret
      exact ⟨_, rfl, by have := HO.out; rw [HTK.out] at this; exact this, HB.out⟩

/-! ### inst_Print: function 14 -/
def inst_Print.l0 : Nat → List (List Int) → List (S34) → Int → Int → Option (List Int × Int)
  | 0, _, _, _, _ => none
  | k + 1, x4, x19, x20, x21 => if x21 < x20 then (if 0 ≤ x21 then (if x21 < (x19.length : Int) then ((inst_line.f ((rd_T34 x19 x21).f0) ((rd_T34 x19 x21).f1) ((rd_T34 x19 x21).f2) ((rd_T34 x19 x21).f3) ((rd_T34 x19 x21).f4) ((rd_T34 x19 x21).f5)).bind fun t184 => (if x4.length < 5864062014805 then (inst_Print.l0 k (x4 ++ [t184]) x19 x20 (wrap64 (x21 + 1))) else (none))) else (none)) else (none)) else ((scan_Print.f x4).bind fun t190 => (some (t190, 0)))
def inst_Print.f (k : Nat) (a0_0 : Int) (a0_1 : Int) (a0_2 : Int) (l0_3 : List (S34)) : Option (List Int × Int) := (inst_May.f k a0_0 a0_1 a0_2 l0_3).bind fun t175 => (if t175 = true then (inst_Print.l0 k (([(([a0_0, a0_1, a0_2] : List Int))] : List (List Int))) l0_3 (l0_3.length : Int) 0) else (some (([] : List Int), 1)))
theorem inst_Print.mono_l : ∀ k, (∀ y0 y1 y2 y3, LeO (inst_Print.l0 k y0 y1 y2 y3) (inst_Print.l0 (k + 1) y0 y1 y2 y3))
  | 0 => fun _ _ _ _ r h => by simp [inst_Print.l0] at h
  | k + 1 => by
    have ih0 := inst_Print.mono_l k
    · intro y0 y1 y2 y3
      unfold inst_Print.l0
      repeat' first
      | (with_reducible exact ih0 _ _ _ _)
      | (with_reducible exact inst_May.mono _ _ _ _ _)
      | (with_reducible exact LeO.refl _)
      | (with_reducible exact LeO.none _)
      | (with_reducible refine LeO.ite ?_ ?_)
      | (with_reducible refine LeO.bind ?_ (fun _ => ?_))
      | exact ih0 _ _ _ _
      | exact inst_May.mono _ _ _ _ _
      | exact LeO.none _
      | refine LeO.ite ?_ ?_
      | refine LeO.bind ?_ (fun _ => ?_)
theorem inst_Print.mono : ∀ a0 a1 a2 a3 k, LeO (inst_Print.f k a0 a1 a2 a3) (inst_Print.f (k + 1) a0 a1 a2 a3) := by
  intro a0 a1 a2 a3 k
  have ih0 := inst_Print.mono_l k
  unfold inst_Print.f
  repeat' first
      | (with_reducible exact ih0 _ _ _ _)
      | (with_reducible exact inst_May.mono _ _ _ _ _)
      | (with_reducible exact LeO.refl _)
      | (with_reducible exact LeO.none _)
      | (with_reducible refine LeO.ite ?_ ?_)
      | (with_reducible refine LeO.bind ?_ (fun _ => ?_))
      | exact ih0 _ _ _ _
      | exact inst_May.mono _ _ _ _ _
      | exact LeO.none _
      | refine LeO.ite ?_ ?_
      | refine LeO.bind ?_ (fun _ => ?_)
set_option maxHeartbeats 8000000 in
set_option maxRecDepth 100000 in
theorem inst_Print.calls (k : Nat) (a0_0 : Int) (a0_1 : Int) (a0_2 : Int) (A0_3 : Option Addr) (c0_3 : Nat) (l0_3 : List (S34)) (r1 : List Int) (r2 : Int) (w : World) (hr0_3 : Kd.C k34 w A0_3 l0_3.length l0_3) (hc0_3 : l0_3.length ≤ c0_3) (h : inst_Print.f k a0_0 a0_1 a0_2 l0_3 = some (r1, r2)) (hT : Go.Proofs.YtifekgemngfidaaDoor.Scan.NumTab w) :
  Calls Tryd.prog 14 #[.agg #[.int .i64 a0_0, .int .i64 a0_1, .int .i64 a0_2, .slice A0_3 l0_3.length c0_3]] w fun e w' => ∃ v0_ : Value, e = .returned (.tuple #[v0_, .int .i64 r2]) ∧ Kd.R (Kd.int .u8) 5 w' w.heap.size (fun _ => True) v0_ r1 ∧ Below w.heap.size w w' := by
 have HT := zqi hT
 clear hT
 have hu26 := Tryd.underlying26
 have hu34 := Tryd.underlying34
 have HR0_3 := zqi hr0_3
 have HC0_3 := zqi hc0_3
 clear hr0_3 hc0_3
 have HB := zqi (Below.refl w.heap.size w)
 have H : ((inst_May.f k a0_0 a0_1 a0_2 l0_3).bind fun t175 => (if t175 = true then (inst_Print.l0 k (([(([a0_0, a0_1, a0_2] : List Int))] : List (List Int))) l0_3 (l0_3.length : Int) 0) else (some (([] : List Int), 1)))) = some (r1, r2) := h
 clear h
 replace H := Option.bind_eq_some_iff.mp H
 obtain ⟨t175, A20, H⟩ := H
 replace H : (if t175 = true then (inst_Print.l0 k (([(([a0_0, a0_1, a0_2] : List Int))] : List (List Int))) l0_3 (l0_3.length : Int) 0) else (some (([] : List Int), 1))) = some (r1, r2) := H
 have A2 := zqi A20
 clear A20
 by_cases c3 : t175 = true
 ·
  subst c3
  have H1 : (inst_Print.l0 k (([(([a0_0, a0_1, a0_2] : List Int))] : List (List Int))) l0_3 (l0_3.length : Int) 0) = some (r1, r2) := by rw [if_pos rfl] at H; exact H
  clear H
  have H := H1
  clear H1
  obtain ⟨y176, hy176⟩ : ∃ y_ : List Int, y_ = (([a0_0, a0_1, a0_2] : List Int)) := ⟨_, rfl⟩
  replace H : (inst_Print.l0 k (([y176] : List (List Int))) l0_3 (l0_3.length : Int) 0) = some (r1, r2) := by first | (rw [hy176]; with_reducible exact H) | (have H2_ := (Option.bind_some _ _).symm.trans H; rw [hy176]; with_reducible exact H2_) | (have H2_ := (Option.bind_some _ _).symm.trans H; with_reducible exact H2_) | with_reducible exact H | (rw [hy176]; exact H) | exact H
  have Ny176 := zqi hy176
  clear hy176
  obtain ⟨y179, hy179⟩ : ∃ y_ : List (List Int), y_ = (([y176] : List (List Int))) := ⟨_, rfl⟩
  replace H : (inst_Print.l0 k y179 l0_3 (l0_3.length : Int) 0) = some (r1, r2) := by first | (rw [hy179]; with_reducible exact H) | (have H2_ := (Option.bind_some _ _).symm.trans H; rw [hy179]; with_reducible exact H2_) | (have H2_ := (Option.bind_some _ _).symm.trans H; with_reducible exact H2_) | with_reducible exact H | (rw [hy179]; exact H) | exact H
  have Ny179 := zqi hy179
  clear hy179
  have H' := zqi H
  clear H
  go_enter Tryd.func14, Tryd.ntmps14
  go_wp2_with (first | ((with_reducible refine gate_dst (N := 1) rfl ?_); refine box_event ?hg (N := 1) ?hd (cs := #[.int .i64 a0_0, .int .i64 a0_1, .int .i64 a0_2, .slice A0_3 l0_3.length c0_3]) (t := 26) ?hr ?_; (case hd => rfl); (case hg => rfl); (case hr => first | (go_simp; done) | (go_simp; rfl)); intro gb174 hg w4 hbox hb; have n0_ := zqi (below_step (by repeat (first | (with_reducible first | exact HB.out | apply zqg | apply zqf | apply zqh) | exact HB.out)) hb); have n1_ := zqi (hbox); have n2_ := zqi ((by rw [hg]; exact (below_size (by repeat (first | (with_reducible first | exact HB.out | apply zqg | apply zqf | apply zqh) | exact HB.out))) : w.heap.size ≤ gb174)); have n3_ := zqi ((by rw [hg]; exact (below_size (by repeat (first | (with_reducible first | exact HB.out | apply zqg | apply zqf | apply zqh) | exact HB.out))) : w.heap.size ≤ gb174)); clear HB; have HB := n0_; have BK174 := n1_; have GW174 := n2_; have GE174 := n3_; clear n0_ n1_ n2_ n3_; clear hb hbox hg; have hcz5_0 : w4.cell? ⟨gb174, 0, none⟩ = some (.int .i64 a0_0) := (zqe BK174.out 0).trans rfl; have hcz5_1 : w4.cell? ⟨gb174, 1, none⟩ = some (.int .i64 a0_1) := (zqe BK174.out 1).trans rfl; have hcz5_2 : w4.cell? ⟨gb174, 2, none⟩ = some (.int .i64 a0_2) := (zqe BK174.out 2).trans rfl; have hcz5_3 : w4.cell? ⟨gb174, 3, none⟩ = some (.slice A0_3 l0_3.length c0_3) := (zqe BK174.out 3).trans rfl; have hfz5_0 := zqd BK174.out 0; have hfz5_1 := zqd BK174.out 1; have hfz5_2 := zqd BK174.out 2; have hfz5_3 := zqd BK174.out 3) | ((with_reducible refine gate_callee (f := 13) rfl ?_); refine goesL_ (some 8) rfl rfl Tryd.func13 (by kernel_rfl) rfl #[.agg #[.int .i64 a0_0, .int .i64 a0_1, .int .i64 a0_2, .slice A0_3 l0_3.length c0_3]] rfl (by (try simp only [List.map_toArray, List.map_cons, List.map_nil]); first | done | rfl | (simp only [List.length_drop, List.length_take]; rfl)) ?_; (with_reducible refine (inst_May.calls k a0_0 a0_1 a0_2 _ _ l0_3 true _ ?side1 ?side2 A2.out).mono ?_); (case side1 => repeat (first | exact (Kd.C_below HR0_3.out HB.out) | (with_reducible refine Kd.C_alloc ?_ _) | (with_reducible refine Kd.C_drewN ?_ _) | (with_reducible refine Kd.C_drew ?_))); (case side2 => exact HC0_3.out); rintro e w6 ⟨rfl, hb⟩; refine ⟨_, rfl, ?_⟩; have n0_ := zqi (blk_below (g := gb174) (o := .cells #[.int .i64 a0_0, .int .i64 a0_1, .int .i64 a0_2, .slice A0_3 l0_3.length c0_3] 26 (0, 0)) (by (with_reducible repeat (first | apply zqa | apply zqb | apply zqc)); exact BK174.out) hb); have n1_ := zqi (below_step (by repeat (first | (with_reducible first | exact HB.out | apply zqg | apply zqf | apply zqh | refine below_set ?_ GE174.out) | exact HB.out)) hb); clear BK174; clear HB; have BK174 := n0_; have HB := n1_; clear n0_ n1_; (try clear hb); (try clear hb2); (try clear hk); (try clear hi); have hcz7_0 : w6.cell? ⟨gb174, 0, none⟩ = some (.int .i64 a0_0) := (zqe BK174.out 0).trans rfl; have hcz7_1 : w6.cell? ⟨gb174, 1, none⟩ = some (.int .i64 a0_1) := (zqe BK174.out 1).trans rfl; have hcz7_2 : w6.cell? ⟨gb174, 2, none⟩ = some (.int .i64 a0_2) := (zqe BK174.out 2).trans rfl; have hcz7_3 : w6.cell? ⟨gb174, 3, none⟩ = some (.slice A0_3 l0_3.length c0_3) := (zqe BK174.out 3).trans rfl; have hfz7_0 := zqd BK174.out 0; have hfz7_1 := zqd BK174.out 1; have hfz7_2 := zqd BK174.out 2; have hfz7_3 := zqd BK174.out 3) | ((with_reducible refine gate_dst (N := 16) rfl ?_); refine Kd.R_lit (Kd.int .i64) _ 3 ?hg (N := 16) ?hd (xs := ([a0_0, a0_1, a0_2] : List Int)) (inner := [.int .i64 a0_0, .int .i64 a0_1, .int .i64 a0_2]) (ok := fun _ => True) (okp := fun _ => True) ?hr ?hp (fun _ hk => hk) trivial (Below.refl _ _) (Nat.le_refl _) (by simp) ?_; (case hd => rfl); (case hg => rfl); (case hr => first | (go_simp; done) | (go_simp; rfl)); (case hp => exact (Reps.one (show Kd.M (Kd.int .i64) _ _ _ a0_0 [.int .i64 a0_0] from rfl) (Reps.one (show Kd.M (Kd.int .i64) _ _ _ a0_1 [.int .i64 a0_1] from rfl) (Reps.one (show Kd.M (Kd.int .i64) _ _ _ a0_2 [.int .i64 a0_2] from rfl) (Reps.none _ _))))); intro v177 w8 ho9 hb hg_ hnew_; clear hg_ hnew_; (first | rw [← Ny176.out] at ho9 | (simp only [Int.reduceToNat] at ho9; rw [← Ny176.out] at ho9)); have n0_ := zqi (Kd.R_lower ho9 (below_size (by repeat (first | (with_reducible first | exact HB.out | apply zqg | apply zqf | apply zqh | refine below_set ?_ GE174.out) | exact HB.out)))); have n1_ := zqi (blk_below (g := gb174) (o := .cells #[.int .i64 a0_0, .int .i64 a0_1, .int .i64 a0_2, .slice A0_3 l0_3.length c0_3] 26 (0, 0)) (by (with_reducible repeat (first | apply zqa | apply zqb | apply zqc)); exact BK174.out) hb); have n2_ := zqi (below_step (by repeat (first | (with_reducible first | exact HB.out | apply zqg | apply zqf | apply zqh | refine below_set ?_ GE174.out) | exact HB.out)) hb); clear BK174; clear HB; have HO178 := n0_; have BK174 := n1_; have HB := n2_; clear n0_ n1_ n2_; clear hb ho9; obtain ⟨Ao10, co10, eo10⟩ := Kd.R_slice HO178.out; subst eo10) | ((with_reducible refine gate_dst (N := 17) rfl ?_); refine Kd.N_lit (Kd.slice 3 (Kd.int .i64)) _ 43 ?hg (N' := 17) ?hd (xs := ([y176] : List (List Int))) (inner := [.slice Ao10 y176.length co10]) (ok := (fun k_ => k_ ≠ gb174)) (okp := (fun k_ => k_ ≠ gb174)) ?hr ?hp (fun _ hk => hk) ((show ∀ k_, w8.heap.size ≤ k_ → (fun k_ => k_ ≠ gb174) k_ from fun k_ hk => Kd.freshB (g := gb174) (o := .cells #[.int .i64 a0_0, .int .i64 a0_1, .int .i64 a0_2, .slice A0_3 l0_3.length c0_3] 26 (0, 0)) (by (with_reducible repeat (first | apply zqa | apply zqb | apply zqc)); exact BK174.out) k_ hk) _ (Nat.le_refl _)) (Below.refl _ _) (Nat.le_refl _) (by simp) ?_; (case hd => rfl); (case hg => rfl); (case hr => first | (go_simp; done) | (go_simp; rfl)); (case hp => exact (Reps.one (show Kd.FK (Kd.slice 3 (Kd.int .i64)) _ _ y176 [.slice Ao10 y176.length co10] from (Kd.FK_slice_mk (Kd.R_reads' (Kd.R_mono (ok' := (fun k_ => k_ ≠ gb174)) (Kd.R_types (HO178.out) BK174.out (by decide)) (fun k_ hk => hk.2))).2.1 (Kd.R_F (Kd.R_mono (ok' := (fun k_ => k_ ≠ gb174)) (Kd.R_types (HO178.out) BK174.out (by decide)) (fun k_ hk => hk.2))))) (Reps.none _ _))); intro v180 w11 ho12 hb hg_ hnew_; clear hg_ hnew_; (first | rw [← Ny179.out] at ho12 | (simp only [Int.reduceToNat] at ho12; rw [← Ny179.out] at ho12)); have n0_ := zqi (Kd.N_lower ho12 (below_size (by repeat (first | (with_reducible first | exact HB.out | apply zqg | apply zqf | apply zqh | refine below_set ?_ GE174.out) | exact HB.out)))); have n1_ := zqi (blk_below (g := gb174) (o := .cells #[.int .i64 a0_0, .int .i64 a0_1, .int .i64 a0_2, .slice A0_3 l0_3.length c0_3] 26 (0, 0)) (by (with_reducible repeat (first | apply zqa | apply zqb | apply zqc)); exact BK174.out) hb); have n2_ := zqi (below_step (by repeat (first | (with_reducible first | exact HB.out | apply zqg | apply zqf | apply zqh | refine below_set ?_ GE174.out) | exact HB.out)) hb); clear BK174; clear HB; clear HO178; have HO181 := n0_; have BK174 := n1_; have HB := n2_; clear n0_ n1_ n2_; clear hb ho12; have hcz13_0 : w11.cell? ⟨gb174, 0, none⟩ = some (.int .i64 a0_0) := (zqe BK174.out 0).trans rfl; have hcz13_1 : w11.cell? ⟨gb174, 1, none⟩ = some (.int .i64 a0_1) := (zqe BK174.out 1).trans rfl; have hcz13_2 : w11.cell? ⟨gb174, 2, none⟩ = some (.int .i64 a0_2) := (zqe BK174.out 2).trans rfl; have hcz13_3 : w11.cell? ⟨gb174, 3, none⟩ = some (.slice A0_3 l0_3.length c0_3) := (zqe BK174.out 3).trans rfl; have hfz13_0 := zqd BK174.out 0; have hfz13_1 := zqd BK174.out 1; have hfz13_2 := zqd BK174.out 2; have hfz13_3 := zqd BK174.out 3))
  go_loopg [4, 21] k (fun kq v4 v21 w' => ∃ (x4_1 : List (List Int)) (x21_1 : Int), v21 = .int .i64 x21_1 ∧ Aside0 (inst_Print.l0 kq x4_1 l0_3 (l0_3.length : Int) x21_1 = some (r1, r2)) ∧ Aside0 (kq ≤ k) ∧ Aside0 (Kd.N (Kd.slice 3 (Kd.int .i64)) 43 w' w.heap.size (fun k_ => k_ ≠ gb174) v4 x4_1) ∧ Aside0 (w'.heap[gb174]? = some (.cells #[.int .i64 a0_0, .int .i64 a0_1, .int .i64 a0_2, (.slice A0_3 l0_3.length c0_3)] 26 (0, 0))) ∧ Aside0 (Below w.heap.size w w'))
  case atStart => exact ⟨(y179), (0), (by first | rfl | (simp; done) | (simp [*]; done)), H', ⟨Nat.le_refl _⟩, ⟨by (with_reducible repeat (first | apply Kd.N_alloc | apply Kd.N_drewN | apply Kd.N_drew)); exact HO181.out⟩, ⟨by (with_reducible repeat (first | apply zqa | apply zqb | apply zqc)); exact BK174.out⟩, ⟨by repeat (first | (with_reducible first | exact HB.out | apply zqg | apply zqf | apply zqh | refine below_set ?_ GE174.out) | exact HB.out)⟩⟩
  case round =>
   clear H'
   try clear c1
   try clear p2
   try clear c3
   try clear c13
   try clear hcz13_0
   try clear hcz13_1
   try clear hcz13_2
   try clear hcz13_3
   try clear hcz5_0
   try clear hcz5_1
   try clear hcz5_2
   try clear hcz5_3
   try clear hcz7_0
   try clear hcz7_1
   try clear hcz7_2
   try clear hcz7_3
   try clear hfz13_0
   try clear hfz13_1
   try clear hfz13_2
   try clear hfz13_3
   try clear hfz5_0
   try clear hfz5_1
   try clear hfz5_2
   try clear hfz5_3
   try clear hfz7_0
   try clear hfz7_1
   try clear hfz7_2
   try clear hfz7_3
   obtain ⟨x4_1, x21_1, rfl, HA, HK1, HO_4, BK174, HB⟩ := hrel
   cases gk with
   | zero => exact absurd HA.out (by simp [inst_Print.l0])
   | succ k1 =>
    have H := HA.out
    clear HA
    simp only [inst_Print.l0] at H
    by_cases c14 : x21_1 < (l0_3.length : Int)
    ·
     rw [if_pos c14] at H
     have c14b0 : decide (x21_1 < (l0_3.length : Int)) = true := decide_eq_true c14
     clear c14
     by_cases c15 : 0 ≤ x21_1
     ·
      rw [if_pos c15] at H
      have c15b0 : decide (0 ≤ x21_1) = true := decide_eq_true c15
      clear c15
      by_cases c16 : x21_1 < (l0_3.length : Int)
      ·
       rw [if_pos c16] at H
       have c16b0 : decide (x21_1 < (l0_3.length : Int)) = true := decide_eq_true c16
       clear c16
       replace H := Option.bind_eq_some_iff.mp H
       obtain ⟨t184, A170, H⟩ := H
       replace H : (if x4_1.length < 5864062014805 then (inst_Print.l0 k1 (x4_1 ++ [t184]) l0_3 (l0_3.length : Int) (wrap64 (x21_1 + 1))) else (none)) = some (r1, r2) := H
       have A17 := zqi A170
       clear A170
       by_cases c18 : x4_1.length < 5864062014805
       ·
        rw [if_pos c18] at H
        have LMc18 := zqi c18
        clear c18
        obtain ⟨y187, hy187⟩ : ∃ y_ : List (List Int), y_ = (x4_1 ++ [t184]) := ⟨_, rfl⟩
        replace H : (inst_Print.l0 k1 y187 l0_3 (l0_3.length : Int) (wrap64 (x21_1 + 1))) = some (r1, r2) := by first | (rw [hy187]; with_reducible exact H) | (have H2_ := (Option.bind_some _ _).symm.trans H; rw [hy187]; with_reducible exact H2_) | (have H2_ := (Option.bind_some _ _).symm.trans H; with_reducible exact H2_) | with_reducible exact H | (rw [hy187]; exact H) | exact H
        have Ny187 := zqi hy187
        clear hy187
        have H' := zqi H
        clear H
        have p182 : 0 ≤ (x21_1 : Int) := of_decide_eq_true (by first | (with_reducible assumption) | assumption)
        have q182 : x21_1 < (l0_3.length : Int) := of_decide_eq_true (by first | (with_reducible assumption) | assumption)
        obtain ⟨ad182, e182, hx182_0, hx182_1, hx182_2, hx182_3, hx182_4, hx182_5⟩ := at_T34 HR0_3.out x21_1 p182 q182
        cases e182
        replace hx182_0 := (HB.out.cell (World.block_lt_of_cell? w _ hx182_0)).trans hx182_0
        replace hx182_1 := (HB.out.cell (World.block_lt_of_cell? w _ hx182_1)).trans hx182_1
        replace hx182_2 := (HB.out.cell (World.block_lt_of_cell? w _ hx182_2)).trans hx182_2
        replace hx182_3 := (HB.out.cell (World.block_lt_of_cell? w _ hx182_3)).trans hx182_3
        replace hx182_4 := (HB.out.cell (World.block_lt_of_cell? w _ hx182_4)).trans hx182_4
        replace hx182_5 := (HB.out.cell (World.block_lt_of_cell? w _ hx182_5)).trans hx182_5
        replace p182 := eq_true p182
        replace q182 := eq_true q182
        go_wp2_with (first | ((with_reducible refine gate_dst (N := 6) rfl ?_); refine box_event ?hg (N := 6) ?hd (cs := #[.int .i64 0, .int .i64 0, .int .i64 0, .int .i64 0, .int .i64 0, .int .i64 0]) (t := 34) ?hr ?_; (case hd => rfl); (case hg => rfl); (case hr => first | (go_simp; done) | (go_simp; rfl)); intro gb183 hg w19 hbox hb; have n0_ := zqi (Kd.N_below (Kd.N_elderB (by (with_reducible repeat (first | apply Kd.N_alloc | apply Kd.N_drewN | apply Kd.N_drew)); exact HO_4.out) gb183 (Nat.le_of_eq hg.symm)) hb); have n1_ := zqi (blk_below (g := gb174) (o := .cells #[.int .i64 a0_0, .int .i64 a0_1, .int .i64 a0_2, .slice (some ad182) l0_3.length c0_3] 26 (0, 0)) (by (with_reducible repeat (first | apply zqa | apply zqb | apply zqc)); exact BK174.out) hb); have n2_ := zqi (below_step (by repeat (first | (with_reducible first | exact HB.out | apply zqg | apply zqf | apply zqh | refine below_set ?_ GE174.out) | exact HB.out)) hb); have n3_ := zqi (hbox); have n4_ := zqi ((by rw [hg]; exact (below_size (by repeat (first | (with_reducible first | exact HB.out | apply zqg | apply zqf | apply zqh | refine below_set ?_ GE174.out) | exact HB.out))) : w.heap.size ≤ gb183)); have n5_ := zqi ((by rw [hg]; exact (below_size (by repeat (first | (with_reducible first | exact HB.out | apply zqg | apply zqf | apply zqh | refine below_set ?_ GE174.out) | exact HB.out))) : w.heap.size ≤ gb183)); have n6_ := zqi ((by rw [hg]; exact Nat.ne_of_lt (blk_lt (g := gb174) (o := .cells #[.int .i64 a0_0, .int .i64 a0_1, .int .i64 a0_2, .slice (some ad182) l0_3.length c0_3] 26 (0, 0)) (by (with_reducible repeat (first | apply zqa | apply zqb | apply zqc)); exact BK174.out)) : gb174 ≠ gb183)); have n7_ := zqi ((by rw [hg]; exact Nat.ne_of_gt (blk_lt (g := gb174) (o := .cells #[.int .i64 a0_0, .int .i64 a0_1, .int .i64 a0_2, .slice (some ad182) l0_3.length c0_3] 26 (0, 0)) (by (with_reducible repeat (first | apply zqa | apply zqb | apply zqc)); exact BK174.out)) : gb183 ≠ gb174)); clear HO_4; clear BK174; clear HB; have HO_4 := n0_; have BK174 := n1_; have HB := n2_; have BK183 := n3_; have GW183 := n4_; have GE183 := n5_; have NB174_183 := n6_; have NB183_174 := n7_; clear n0_ n1_ n2_ n3_ n4_ n5_ n6_ n7_; clear hb hbox hg; have hnb20 := NB183_174.out; have hnc20 := NB174_183.out; have hcz21_0 : w19.cell? ⟨gb183, 0, none⟩ = some (.int .i64 0) := (zqe BK183.out 0).trans rfl; have hcz21_1 : w19.cell? ⟨gb183, 1, none⟩ = some (.int .i64 0) := (zqe BK183.out 1).trans rfl; have hcz21_2 : w19.cell? ⟨gb183, 2, none⟩ = some (.int .i64 0) := (zqe BK183.out 2).trans rfl; have hcz21_3 : w19.cell? ⟨gb183, 3, none⟩ = some (.int .i64 0) := (zqe BK183.out 3).trans rfl; have hcz21_4 : w19.cell? ⟨gb183, 4, none⟩ = some (.int .i64 0) := (zqe BK183.out 4).trans rfl; have hcz21_5 : w19.cell? ⟨gb183, 5, none⟩ = some (.int .i64 0) := (zqe BK183.out 5).trans rfl; have hfz21_0 := zqd BK183.out 0; have hfz21_1 := zqd BK183.out 1; have hfz21_2 := zqd BK183.out 2; have hfz21_3 := zqd BK183.out 3; have hfz21_4 := zqd BK183.out 4; have hfz21_5 := zqd BK183.out 5) | ((with_reducible refine gate_callee (f := 25) rfl ?_); refine goesL_ (some 27) rfl rfl Tryd.func25 (by kernel_rfl) rfl #[.agg #[.int .i64 ((rd_T34 l0_3 x21_1).f0), .int .i64 ((rd_T34 l0_3 x21_1).f1), .int .i64 ((rd_T34 l0_3 x21_1).f2), .int .i64 ((rd_T34 l0_3 x21_1).f3), .int .i64 ((rd_T34 l0_3 x21_1).f4), .int .i64 ((rd_T34 l0_3 x21_1).f5)]] rfl (by (try simp only [List.map_toArray, List.map_cons, List.map_nil]); first | done | rfl | (simp only [List.length_drop, List.length_take]; rfl)) ?_; (with_reducible refine (inst_line.calls ((rd_T34 l0_3 x21_1).f0) ((rd_T34 l0_3 x21_1).f1) ((rd_T34 l0_3 x21_1).f2) ((rd_T34 l0_3 x21_1).f3) ((rd_T34 l0_3 x21_1).f4) ((rd_T34 l0_3 x21_1).f5) t184 _ A17.out).mono ?_); rintro e w22 ⟨v185, rfl, ho0, hb⟩; refine ⟨_, rfl, ?_⟩; have n0_ := zqi (Kd.N_elder' (by (with_reducible repeat (first | apply Kd.N_alloc | apply Kd.N_drewN | apply Kd.N_drew)); exact (Kd.N_mono (Kd.N_far (p := ⟨gb183, 5, none⟩) (Kd.N_far (p := ⟨gb183, 4, none⟩) (Kd.N_far (p := ⟨gb183, 3, none⟩) (Kd.N_far (p := ⟨gb183, 2, none⟩) (Kd.N_far (p := ⟨gb183, 1, none⟩) (Kd.N_far (p := ⟨gb183, 0, none⟩) (Kd.N_mono HO_4.out (fun k_ hk => (⟨hk, hk.2⟩ : _ ∧ k_ ≠ gb183))) (fun _ hk => hk.2) (.int .i64 ((rd_T34 l0_3 x21_1).f0))) (fun _ hk => hk.2) (.int .i64 ((rd_T34 l0_3 x21_1).f1))) (fun _ hk => hk.2) (.int .i64 ((rd_T34 l0_3 x21_1).f2))) (fun _ hk => hk.2) (.int .i64 ((rd_T34 l0_3 x21_1).f3))) (fun _ hk => hk.2) (.int .i64 ((rd_T34 l0_3 x21_1).f4))) (fun _ hk => hk.2) (.int .i64 ((rd_T34 l0_3 x21_1).f5))) (fun _ h_ => h_.1))) (Kd.R_base ho0) hb); have n1_ := zqi (Kd.R_lower ho0 (below_size (by repeat (first | (with_reducible first | exact HB.out | apply zqg | apply zqf | apply zqh | refine below_set ?_ GE174.out | refine below_set ?_ GE183.out) | exact HB.out)))); have n2_ := zqi (blk_below (g := gb174) (o := .cells #[.int .i64 a0_0, .int .i64 a0_1, .int .i64 a0_2, .slice (some ad182) l0_3.length c0_3] 26 (0, 0)) (by (with_reducible repeat (first | apply zqa | apply zqb | apply zqc)); refine blk_far ?_ NB174_183.out _; (with_reducible repeat (first | apply zqa | apply zqb | apply zqc)); refine blk_far ?_ NB174_183.out _; (with_reducible repeat (first | apply zqa | apply zqb | apply zqc)); refine blk_far ?_ NB174_183.out _; (with_reducible repeat (first | apply zqa | apply zqb | apply zqc)); refine blk_far ?_ NB174_183.out _; (with_reducible repeat (first | apply zqa | apply zqb | apply zqc)); refine blk_far ?_ NB174_183.out _; (with_reducible repeat (first | apply zqa | apply zqb | apply zqc)); refine blk_far ?_ NB174_183.out _; (with_reducible repeat (first | apply zqa | apply zqb | apply zqc)); exact BK174.out) hb); have n3_ := zqi (blk_below (g := gb183) (o := .cells #[.int .i64 ((rd_T34 l0_3 x21_1).f0), .int .i64 ((rd_T34 l0_3 x21_1).f1), .int .i64 ((rd_T34 l0_3 x21_1).f2), .int .i64 ((rd_T34 l0_3 x21_1).f3), .int .i64 ((rd_T34 l0_3 x21_1).f4), .int .i64 ((rd_T34 l0_3 x21_1).f5)] 34 (0, 0)) (by (with_reducible repeat (first | apply zqa | apply zqb | apply zqc)); refine blk_put (cs := #[.int .i64 ((rd_T34 l0_3 x21_1).f0), .int .i64 ((rd_T34 l0_3 x21_1).f1), .int .i64 ((rd_T34 l0_3 x21_1).f2), .int .i64 ((rd_T34 l0_3 x21_1).f3), .int .i64 ((rd_T34 l0_3 x21_1).f4), .int .i64 0]) ?_ 5 _ rfl; (with_reducible repeat (first | apply zqa | apply zqb | apply zqc)); refine blk_put (cs := #[.int .i64 ((rd_T34 l0_3 x21_1).f0), .int .i64 ((rd_T34 l0_3 x21_1).f1), .int .i64 ((rd_T34 l0_3 x21_1).f2), .int .i64 ((rd_T34 l0_3 x21_1).f3), .int .i64 0, .int .i64 0]) ?_ 4 _ rfl; (with_reducible repeat (first | apply zqa | apply zqb | apply zqc)); refine blk_put (cs := #[.int .i64 ((rd_T34 l0_3 x21_1).f0), .int .i64 ((rd_T34 l0_3 x21_1).f1), .int .i64 ((rd_T34 l0_3 x21_1).f2), .int .i64 0, .int .i64 0, .int .i64 0]) ?_ 3 _ rfl; (with_reducible repeat (first | apply zqa | apply zqb | apply zqc)); refine blk_put (cs := #[.int .i64 ((rd_T34 l0_3 x21_1).f0), .int .i64 ((rd_T34 l0_3 x21_1).f1), .int .i64 0, .int .i64 0, .int .i64 0, .int .i64 0]) ?_ 2 _ rfl; (with_reducible repeat (first | apply zqa | apply zqb | apply zqc)); refine blk_put (cs := #[.int .i64 ((rd_T34 l0_3 x21_1).f0), .int .i64 0, .int .i64 0, .int .i64 0, .int .i64 0, .int .i64 0]) ?_ 1 _ rfl; (with_reducible repeat (first | apply zqa | apply zqb | apply zqc)); refine blk_put (cs := #[.int .i64 0, .int .i64 0, .int .i64 0, .int .i64 0, .int .i64 0, .int .i64 0]) ?_ 0 _ rfl; (with_reducible repeat (first | apply zqa | apply zqb | apply zqc)); exact BK183.out) hb); have n4_ := zqi (below_step (by repeat (first | (with_reducible first | exact HB.out | apply zqg | apply zqf | apply zqh | refine below_set ?_ GE174.out | refine below_set ?_ GE183.out) | exact HB.out)) hb); clear HO_4; clear BK174; clear BK183; clear HB; have HO_4 := n0_; have HO186 := n1_; have BK174 := n2_; have BK183 := n3_; have HB := n4_; clear n0_ n1_ n2_ n3_ n4_; (try clear hb); (try clear hb2); (try clear hk); (try clear hi); (try clear ho0); obtain ⟨Ao24, co24, eo24⟩ := Kd.R_slice HO186.out; subst eo24) | ((with_reducible refine gate_builtin (b := .append) (xs := #[.tmp 25, .tmp 28]) rfl ?_); at_builtin; refine Kd.N_append (Kd.slice 3 (Kd.int .i64)) (w0 := w) w.heap.size rfl (.tmp 25) (.tmp 28) 40 43 (.slice none 0 0) 24 rfl Tryd.underlying40 info43 rfl (by decide) (by omega) u4 x4_1 t184 [.slice Ao24 t184.length co24] (fun k_ => k_ ≠ gb174 ∧ k_ ≠ gb183) (fun k_ => ((fun k_ => k_ ≠ gb174 ∧ k_ ≠ gb183)) k_ ∧ some k_ ≠ (u4 : Value).ownBlock) rfl rfl ?aP (fun _ hk => hk) ?aF ?aO ?aB ?aS ?aL ?_; (case aP => exact (Kd.FK_slice_mk (Kd.R_reads' (Kd.R_mono (ok' := (fun k_ => ((fun k_ => k_ ≠ gb174 ∧ k_ ≠ gb183)) k_ ∧ some k_ ≠ (u4 : Value).ownBlock)) (Kd.R_types (Kd.R_types (Kd.R_apart' (HO186.out) (Kd.N_typed HO_4.out) (by decide)) BK174.out (by decide)) BK183.out (by decide)) (fun k_ hk => ⟨⟨hk.1.2, hk.2⟩, hk.1.1.2⟩))).2.1 (Kd.R_F (Kd.R_mono (ok' := (fun k_ => ((fun k_ => k_ ≠ gb174 ∧ k_ ≠ gb183)) k_ ∧ some k_ ≠ (u4 : Value).ownBlock)) (Kd.R_types (Kd.R_types (Kd.R_apart' (HO186.out) (Kd.N_typed HO_4.out) (by decide)) BK174.out (by decide)) BK183.out (by decide)) (fun k_ hk => ⟨⟨hk.1.2, hk.2⟩, hk.1.1.2⟩))))); (case aB => exact (by repeat (first | (with_reducible first | exact HB.out | apply zqg | apply zqf | apply zqh | refine below_set ?_ GE174.out | refine below_set ?_ GE183.out) | exact HB.out))); (case aF => exact (fun k_ hk => ⟨Kd.freshB (g := gb174) (o := .cells #[.int .i64 a0_0, .int .i64 a0_1, .int .i64 a0_2, .slice (some ad182) l0_3.length c0_3] 26 (0, 0)) (by (with_reducible repeat (first | apply zqa | apply zqb | apply zqc)); exact BK174.out) k_ hk, Kd.freshB (g := gb183) (o := .cells #[.int .i64 ((rd_T34 l0_3 x21_1).f0), .int .i64 ((rd_T34 l0_3 x21_1).f1), .int .i64 ((rd_T34 l0_3 x21_1).f2), .int .i64 ((rd_T34 l0_3 x21_1).f3), .int .i64 ((rd_T34 l0_3 x21_1).f4), .int .i64 ((rd_T34 l0_3 x21_1).f5)] 34 (0, 0)) (by (with_reducible repeat (first | apply zqa | apply zqb | apply zqc)); exact BK183.out) k_ hk⟩)); (case aO => exact (by (with_reducible repeat (first | apply Kd.N_alloc | apply Kd.N_drewN | apply Kd.N_drew)); exact Kd.N_mono HO_4.out (fun _ hk => ⟨hk.1.1, hk.1.2⟩))); (case aS => exact (below_size (by repeat (first | (with_reducible first | exact HB.out | apply zqg | apply zqf | apply zqh | refine below_set ?_ GE174.out | refine below_set ?_ GE183.out) | exact HB.out)))); (case aL => have := LMc18.out; omega); intro v188 w23 ho hb hg hat; rw [← Ny187.out] at ho; have n0_ := zqi (blk_grown (g := gb174) (o := .cells #[.int .i64 a0_0, .int .i64 a0_1, .int .i64 a0_2, .slice (some ad182) l0_3.length c0_3] 26 (0, 0)) (by (with_reducible repeat (first | apply zqa | apply zqb | apply zqc)); exact BK174.out) hg (Kd.N_ne HO_4.out BK174.out (by decide))); have n1_ := zqi (blk_grown (g := gb183) (o := .cells #[.int .i64 ((rd_T34 l0_3 x21_1).f0), .int .i64 ((rd_T34 l0_3 x21_1).f1), .int .i64 ((rd_T34 l0_3 x21_1).f2), .int .i64 ((rd_T34 l0_3 x21_1).f3), .int .i64 ((rd_T34 l0_3 x21_1).f4), .int .i64 ((rd_T34 l0_3 x21_1).f5)] 34 (0, 0)) (by (with_reducible repeat (first | apply zqa | apply zqb | apply zqc)); exact BK183.out) hg (Kd.N_ne HO_4.out BK183.out (by decide))); have n2_ := zqi (hb); have n3_ := zqi (ho); clear BK174; clear BK183; clear HB; clear HO_4; clear HO186; have BK174 := n0_; have BK183 := n1_; have HB := n2_; have HO189 := n3_; clear n0_ n1_ n2_ n3_; clear ho hb hg hat))
        go_roundg k1
        case measure => have := HK1.out; omega
        case rel => exact ⟨(y187), (wrap64 (x21_1 + 1)), (by first | rfl | (simp; done) | (simp [*]; done)), H', ⟨by have := HK1.out; omega⟩, ⟨by (with_reducible repeat (first | apply Kd.N_alloc | apply Kd.N_drewN | apply Kd.N_drew)); exact Kd.N_mono HO189.out (fun _ hk => hk.1)⟩, ⟨by (with_reducible repeat (first | apply zqa | apply zqb | apply zqc)); exact BK174.out⟩, ⟨by repeat (first | (with_reducible first | exact HB.out | apply zqg | apply zqf | apply zqh | refine below_set ?_ GE174.out | refine below_set ?_ GE183.out) | exact HB.out)⟩⟩
       ·
        rw [if_neg c18] at H
        exact absurd H (by simp)
      ·
       rw [if_neg c16] at H
       exact absurd H (by simp)
     ·
      rw [if_neg c15] at H
      exact absurd H (by simp)
    ·
     rw [if_neg c14] at H
     have c14b0 : decide (x21_1 < (l0_3.length : Int)) = false := decide_eq_false c14
     clear c14
     replace H := Option.bind_eq_some_iff.mp H
     obtain ⟨t190, A250, H⟩ := H
     replace H : (some (t190, 0)) = some (r1, r2) := H
     have A25 := zqi A250
     clear A250
     simp only [Option.some.injEq, Prod.mk.injEq] at H
     obtain ⟨rfl, rfl⟩ := H
     obtain ⟨Ao26, co26, eo26⟩ := Kd.N_slice HO_4.out
     subst eo26
     go_wp2_with (first | ((with_reducible refine gate_callee (f := 26) rfl ?_); refine goesL_ (some 32) rfl rfl Tryd.func26 (by kernel_rfl) rfl #[.slice Ao26 x4_1.length co26] rfl (by (try simp only [List.map_toArray, List.map_cons, List.map_nil]); first | done | rfl | (simp only [List.length_drop, List.length_take]; rfl)) ?_; (with_reducible refine (scan_Print.calls _ _ x4_1 t190 _ ?side1 ?side2 A25.out ?tab).mono ?_); (case tab => exact HT.out.on (by repeat (first | (with_reducible first | exact HB.out | apply zqg | apply zqf | apply zqh | refine below_set ?_ GE174.out | refine below_set ?_ GE183.out) | exact HB.out))); (case side1 => repeat (first | exact (Kd.N_reads' HO_4.out).2.2 | (with_reducible refine Kd.C_alloc ?_ _) | (with_reducible refine Kd.C_drewN ?_ _) | (with_reducible refine Kd.C_drew ?_))); (case side2 => exact (Kd.N_reads' HO_4.out).2.1); rintro e w27 ⟨v191, rfl, ho0, hb⟩; refine ⟨_, rfl, ?_⟩; have n0_ := zqi (Kd.N_elder' (by (with_reducible repeat (first | apply Kd.N_alloc | apply Kd.N_drewN | apply Kd.N_drew)); exact HO_4.out) (Kd.R_base ho0) hb); have n1_ := zqi (Kd.R_lower ho0 (below_size (by repeat (first | (with_reducible first | exact HB.out | apply zqg | apply zqf | apply zqh | refine below_set ?_ GE174.out) | exact HB.out)))); have n2_ := zqi (blk_below (g := gb174) (o := .cells #[.int .i64 a0_0, .int .i64 a0_1, .int .i64 a0_2, .slice A0_3 l0_3.length c0_3] 26 (0, 0)) (by (with_reducible repeat (first | apply zqa | apply zqb | apply zqc)); exact BK174.out) hb); have n3_ := zqi (below_step (by repeat (first | (with_reducible first | exact HB.out | apply zqg | apply zqf | apply zqh | refine below_set ?_ GE174.out) | exact HB.out)) hb); clear HO_4; clear BK174; clear HB; have HO_4 := n0_; have HO192 := n1_; have BK174 := n2_; have HB := n3_; clear n0_ n1_ n2_ n3_; (try clear hb); (try clear hb2); (try clear hk); (try clear hi); (try clear ho0)))
     go_ret2
     exact ⟨_, by first | rfl | (simp [errW_none, errW_some] <;> rfl) | (simp [*, errW_none, errW_some] <;> rfl), by (with_reducible repeat (first | apply Kd.R_alloc | apply Kd.R_drewN | apply Kd.R_drew)); exact HO192.out, by repeat (first | (with_reducible first | exact HB.out | apply zqg | apply zqf | apply zqh | refine below_set ?_ GE174.out) | exact HB.out)⟩
 ·
  replace c3 := Bool.eq_false_iff.mpr c3
  subst c3
  have H1 : (some (([] : List Int), 1)) = some (r1, r2) := by rw [if_neg (show ¬ (false = true) by decide)] at H; exact H
  clear H
  have H := H1
  clear H1
  simp only [Option.some.injEq, Prod.mk.injEq] at H
  obtain ⟨rfl, rfl⟩ := H
  go_enter Tryd.func14, Tryd.ntmps14
  go_wp2_with (first | ((with_reducible refine gate_dst (N := 1) rfl ?_); refine box_event ?hg (N := 1) ?hd (cs := #[.int .i64 a0_0, .int .i64 a0_1, .int .i64 a0_2, .slice A0_3 l0_3.length c0_3]) (t := 26) ?hr ?_; (case hd => rfl); (case hg => rfl); (case hr => first | (go_simp; done) | (go_simp; rfl)); intro gb174 hg w28 hbox hb; have n0_ := zqi (below_step (by repeat (first | (with_reducible first | exact HB.out | apply zqg | apply zqf | apply zqh) | exact HB.out)) hb); have n1_ := zqi (hbox); have n2_ := zqi ((by rw [hg]; exact (below_size (by repeat (first | (with_reducible first | exact HB.out | apply zqg | apply zqf | apply zqh) | exact HB.out))) : w.heap.size ≤ gb174)); have n3_ := zqi ((by rw [hg]; exact (below_size (by repeat (first | (with_reducible first | exact HB.out | apply zqg | apply zqf | apply zqh) | exact HB.out))) : w.heap.size ≤ gb174)); clear HB; have HB := n0_; have BK174 := n1_; have GW174 := n2_; have GE174 := n3_; clear n0_ n1_ n2_ n3_; clear hb hbox hg; have hcz29_0 : w28.cell? ⟨gb174, 0, none⟩ = some (.int .i64 a0_0) := (zqe BK174.out 0).trans rfl; have hcz29_1 : w28.cell? ⟨gb174, 1, none⟩ = some (.int .i64 a0_1) := (zqe BK174.out 1).trans rfl; have hcz29_2 : w28.cell? ⟨gb174, 2, none⟩ = some (.int .i64 a0_2) := (zqe BK174.out 2).trans rfl; have hcz29_3 : w28.cell? ⟨gb174, 3, none⟩ = some (.slice A0_3 l0_3.length c0_3) := (zqe BK174.out 3).trans rfl; have hfz29_0 := zqd BK174.out 0; have hfz29_1 := zqd BK174.out 1; have hfz29_2 := zqd BK174.out 2; have hfz29_3 := zqd BK174.out 3) | ((with_reducible refine gate_callee (f := 13) rfl ?_); refine goesL_ (some 8) rfl rfl Tryd.func13 (by kernel_rfl) rfl #[.agg #[.int .i64 a0_0, .int .i64 a0_1, .int .i64 a0_2, .slice A0_3 l0_3.length c0_3]] rfl (by (try simp only [List.map_toArray, List.map_cons, List.map_nil]); first | done | rfl | (simp only [List.length_drop, List.length_take]; rfl)) ?_; (with_reducible refine (inst_May.calls k a0_0 a0_1 a0_2 _ _ l0_3 false _ ?side1 ?side2 A2.out).mono ?_); (case side1 => repeat (first | exact (Kd.C_below HR0_3.out HB.out) | (with_reducible refine Kd.C_alloc ?_ _) | (with_reducible refine Kd.C_drewN ?_ _) | (with_reducible refine Kd.C_drew ?_))); (case side2 => exact HC0_3.out); rintro e w30 ⟨rfl, hb⟩; refine ⟨_, rfl, ?_⟩; have n0_ := zqi (blk_below (g := gb174) (o := .cells #[.int .i64 a0_0, .int .i64 a0_1, .int .i64 a0_2, .slice A0_3 l0_3.length c0_3] 26 (0, 0)) (by (with_reducible repeat (first | apply zqa | apply zqb | apply zqc)); exact BK174.out) hb); have n1_ := zqi (below_step (by repeat (first | (with_reducible first | exact HB.out | apply zqg | apply zqf | apply zqh | refine below_set ?_ GE174.out) | exact HB.out)) hb); clear BK174; clear HB; have BK174 := n0_; have HB := n1_; clear n0_ n1_; (try clear hb); (try clear hb2); (try clear hk); (try clear hi)))
  go_ret2
  exact ⟨_, by first | rfl | (simp [errW_none, errW_some] <;> rfl) | (simp [*, errW_none, errW_some] <;> rfl), by first | exact Kd.R_nil _ _ _ _ _ | exact Kd.N_nil _ _ _ _ _ | exact Kd.V_nil _ _ _ _ _ | exact Kd.Q_nil _ _ _ _ _ | exact Kd.S_nil _ _ _ _ _, by repeat (first | (with_reducible first | exact HB.out | apply zqg | apply zqf | apply zqh | refine below_set ?_ GE174.out) | exact HB.out)⟩

/-! ### haulierlaw05_Small: function 18 -/
def haulierlaw05_Small.f  : Option (ByteArray) := some (⟨#[49, 32, 49, 32, 53, 10, 48, 32, 48, 32, 48, 32, 48, 32, 49, 48, 48, 32, 48, 10, 51, 32, 48, 32, 50, 32, 48, 32, 53, 48, 32, 49, 10, 48, 32, 52, 32, 45, 50, 32, 48, 32, 57, 48, 32, 49, 10]⟩ : ByteArray)
set_option maxHeartbeats 8000000 in
set_option maxRecDepth 100000 in
theorem haulierlaw05_Small.calls  (r : ByteArray) (w : World) (h : haulierlaw05_Small.f  = some r) :
    Calls Tryd.prog 18 #[] w fun e w' => e = .returned (.string r) ∧ Drawn0 w w' := by
  have H : (some (⟨#[49, 32, 49, 32, 53, 10, 48, 32, 48, 32, 48, 32, 48, 32, 49, 48, 48, 32, 48, 10, 51, 32, 48, 32, 50, 32, 48, 32, 53, 48, 32, 49, 10, 48, 32, 52, 32, 45, 50, 32, 48, 32, 57, 48, 32, 49, 10]⟩ : ByteArray)) = some r := h
  clear h
  obtain rfl := Option.some.inj H
  go_enter Tryd.func18, Tryd.ntmps18
  go_wp2
  go_ret
  exact ⟨by first | rfl | (simp; done) | (simp [*]; done), by repeat (first | exact Drawn0.refl _ | apply Drawn0.step)⟩

end Go.Proofs.YtifekgemngfidaaDoor.PA
