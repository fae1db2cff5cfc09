-- Printed for this claim by wip/tools/xprint.py over the kit's print; the contracts marked BY HAND are this session's own.
import Derived.Test.YtdmlohoicgfdnaaDoorPAx0
namespace Go.Proofs.YtdmlohoicgfdnaaDoor.PA
open Go.RowKit Go.Proofs.YtdmlohoicgfdnaaDoorW.PrintWords Go.Proofs.YtdmlohoicgfdnaaDoorW.PrintLast Go.Proofs.YtdmlohoicgfdnaaDoorW.PrintMore
attribute [local go_sem] max2_int min2_int max_two min_two max_three min_three max_four min_four   -- for this text's walks alone
set_option linter.unusedVariables false
set_option linter.unusedSimpArgs false

/-! ### haulierlaw04_few: function 9 -/
def haulierlaw04_few.l0 : Nat → List (List Int) → Int → Option (Bool)
  | 0, _, _ => none
  | k + 1, x0, x3 => if x3 < (x0.length : Int) then (if 0 ≤ x3 then (if ((rd_L2 x0 x3).length : Int) > 100 then (some false) else (haulierlaw04_few.l0 k x0 (wrap64 (x3 + 1)))) else (none)) else (some true)
def haulierlaw04_few.f (k : Nat) (l0 : List (List Int)) : Option (Bool) := if (l0.length : Int) > 100 then (some false) else (haulierlaw04_few.l0 k l0 0)
theorem haulierlaw04_few.mono_l : ∀ k, (∀ y0 y1, LeO (haulierlaw04_few.l0 k y0 y1) (haulierlaw04_few.l0 (k + 1) y0 y1))
  | 0 => fun _ _ r h => by simp [haulierlaw04_few.l0] at h
  | k + 1 => by
    have ih0 := haulierlaw04_few.mono_l k
    · intro y0 y1
      unfold haulierlaw04_few.l0
      repeat' first
      | (with_reducible exact ih0 _ _)
      | (with_reducible exact LeO.refl _)
      | (with_reducible exact LeO.none _)
      | (with_reducible refine LeO.ite ?_ ?_)
      | (with_reducible refine LeO.bind ?_ (fun _ => ?_))
      | exact ih0 _ _
      | exact LeO.none _
      | refine LeO.ite ?_ ?_
      | refine LeO.bind ?_ (fun _ => ?_)
theorem haulierlaw04_few.mono : ∀ a0 k, LeO (haulierlaw04_few.f k a0) (haulierlaw04_few.f (k + 1) a0) := by
  intro a0 k
  have ih0 := haulierlaw04_few.mono_l k
  unfold haulierlaw04_few.f
  repeat' first
      | (with_reducible exact ih0 _ _)
      | (with_reducible exact LeO.refl _)
      | (with_reducible exact LeO.none _)
      | (with_reducible refine LeO.ite ?_ ?_)
      | (with_reducible refine LeO.bind ?_ (fun _ => ?_))
      | exact ih0 _ _
      | exact LeO.none _
      | refine LeO.ite ?_ ?_
      | refine LeO.bind ?_ (fun _ => ?_)
set_option maxHeartbeats 8000000 in
set_option maxRecDepth 100000 in
theorem haulierlaw04_few.calls (k : Nat) (A0 : Option Addr) (c0 : Nat) (l0 : List (List Int)) (r : Bool) (w : World) (hr0 : Kd.C (Kd.slice 3 (Kd.int .i64)) w A0 l0.length l0) (hc0 : l0.length ≤ c0) (h : haulierlaw04_few.f k l0 = some r) :
    Calls Tryd.prog 9 #[.slice A0 l0.length c0] w fun e w' => e = .returned (.bool r) ∧ Drawn0 w w' := by
  have HR0 := Aside0.mk hr0
  have HC0 := Aside0.mk hc0
  clear hr0 hc0
  have H : (if (l0.length : Int) > 100 then (some false) else (haulierlaw04_few.l0 k l0 0)) = some r := h
  clear h
  by_cases c2 : (l0.length : Int) > 100
  · rw [if_pos c2] at H
    have c2b0 : decide (100 < (l0.length : Int)) = true := decide_eq_true c2
    have c2b1 : decide (100 < l0.length) = true := decide_eq_true (by omega)
    clear c2
    obtain rfl := Option.some.inj H
    go_enter Tryd.func9, Tryd.ntmps9
    go_wp2
    go_ret
    exact ⟨by first | rfl | (simp; done) | (simp [*]; done), by repeat (first | exact Drawn0.refl _ | apply Drawn0.step)⟩
  · rw [if_neg c2] at H
    have c2b0 : decide (100 < (l0.length : Int)) = false := decide_eq_false c2
    have c2b1 : decide (100 < l0.length) = false := decide_eq_false (by omega)
    clear c2
    have H' := Aside0.mk H
    clear H
    go_enter Tryd.func9, Tryd.ntmps9
    go_wp2
    go_loopg [3] k (fun kq v3 w' => ∃ (x3_1 : Int), v3 = .int .i64 x3_1 ∧ Aside0 (haulierlaw04_few.l0 kq l0 x3_1 = some r) ∧ Aside0 (kq ≤ k) ∧ Drawn0 w w')
    case atStart => exact ⟨(0), (by first | rfl | (simp; done) | (simp [*]; done)), H', ⟨Nat.le_refl _⟩, by repeat (first | exact Drawn0.refl _ | apply Drawn0.step)⟩
    case round =>
      clear H'
      try clear c2
      try clear c2b0
      try clear c2b1
      try clear p2
      obtain ⟨x3_1, rfl, HA, HK1, ⟨m1, rfl⟩⟩ := hrel
      cases gk with
      | zero => exact absurd HA.out (by simp [haulierlaw04_few.l0])
      | succ k1 =>
        have H := HA.out
        clear HA
        simp only [haulierlaw04_few.l0] at H
        by_cases c3 : x3_1 < (l0.length : Int)
        · rw [if_pos c3] at H
          have c3b0 : decide (x3_1 < (l0.length : Int)) = true := decide_eq_true c3
          clear c3
          by_cases c4 : 0 ≤ x3_1
          · rw [if_pos c4] at H
            have c4b0 : decide (0 ≤ x3_1) = true := decide_eq_true c4
            clear c4
            by_cases c5 : ((rd_L2 l0 x3_1).length : Int) > 100
            · rw [if_pos c5] at H
              have c5b0 : decide (100 < ((rd_L2 l0 x3_1).length : Int)) = true := decide_eq_true c5
              have c5b1 : decide (100 < (rd_L2 l0 x3_1).length) = true := decide_eq_true (by omega)
              clear c5
              obtain rfl := Option.some.inj H
              have p121 : 0 ≤ (x3_1 : Int) := of_decide_eq_true (by first | (with_reducible assumption) | assumption)
              have q121 : x3_1 < (l0.length : Int) := of_decide_eq_true (by first | (with_reducible assumption) | assumption)
              obtain ⟨ad121, A121_0, c121_0, e121, hx121_0, hl121_0, hi121_0⟩ := at_L2 HR0.out x3_1 p121 q121
              cases e121
              have HR121_0 := Aside0.mk hi121_0
              have HC121_0 := Aside0.mk hl121_0
              clear hi121_0 hl121_0
              replace p121 := eq_true p121
              replace q121 := eq_true q121
              go_wp2
              go_ret
              exact ⟨by first | rfl | (simp; done) | (simp [*]; done), by repeat (first | exact Drawn0.refl _ | apply Drawn0.step)⟩
            · rw [if_neg c5] at H
              have c5b0 : decide (100 < ((rd_L2 l0 x3_1).length : Int)) = false := decide_eq_false c5
              have c5b1 : decide (100 < (rd_L2 l0 x3_1).length) = false := decide_eq_false (by omega)
              clear c5
              have H' := Aside0.mk H
              clear H
              have p121 : 0 ≤ (x3_1 : Int) := of_decide_eq_true (by first | (with_reducible assumption) | assumption)
              have q121 : x3_1 < (l0.length : Int) := of_decide_eq_true (by first | (with_reducible assumption) | assumption)
              obtain ⟨ad121, A121_0, c121_0, e121, hx121_0, hl121_0, hi121_0⟩ := at_L2 HR0.out x3_1 p121 q121
              cases e121
              have HR121_0 := Aside0.mk hi121_0
              have HC121_0 := Aside0.mk hl121_0
              clear hi121_0 hl121_0
              replace p121 := eq_true p121
              replace q121 := eq_true q121
              go_wp2
              go_roundg k1
              case measure => have := HK1.out; omega
              case rel => exact ⟨(wrap64 (x3_1 + 1)), (by first | rfl | (simp; done) | (simp [*]; done)), H', ⟨by have := HK1.out; omega⟩, by repeat (first | exact Drawn0.refl _ | apply Drawn0.step)⟩
          · rw [if_neg c4] at H
            exact absurd H (by simp)
        · rw [if_neg c3] at H
          have c3b0 : decide (x3_1 < (l0.length : Int)) = false := decide_eq_false c3
          clear c3
          obtain rfl := Option.some.inj H
          go_wp2
          go_ret
          exact ⟨by first | rfl | (simp; done) | (simp [*]; done), by repeat (first | exact Drawn0.refl _ | apply Drawn0.step)⟩

/-! ### scan_Print: function 10, BY HAND -/
open Go.Proofs.YtdmlohoicgfdnaaDoor.Scan in
def scan_Print.Ok (l0 : List (List Int)) : Prop := (textP l0).length ≤ 70368744177664 ∧ ∀ l ∈ l0, ∀ n ∈ l, (-9223372036854775808 : Int) ≤ n ∧ n ≤ 9223372036854775807
open Go.Proofs.YtdmlohoicgfdnaaDoor.Scan in
instance (l0 : List (List Int)) : Decidable (scan_Print.Ok l0) := by unfold scan_Print.Ok; infer_instance
open Go.Proofs.YtdmlohoicgfdnaaDoor.Scan in
def scan_Print.f (l0 : List (List Int)) : Option (List Int) := if scan_Print.Ok l0 then some (textP l0) else none
theorem hidP {p : Prop} (h : p) : Hid p := h
theorem rd_L2_at {l : List (List Int)} {i : Nat} (h : i < l.length) : rd_L2 l (i : Int) = l[i] := by unfold rd_L2; simp [List.getD, List.getElem?_eq_getElem h]
theorem rd_atP {b : List Int} {i : Nat} (h : i < b.length) : rd b (i : Int) = b[i] := by unfold rd; simp [List.getD, List.getElem?_eq_getElem h]
set_option maxHeartbeats 4000000 in
set_option maxRecDepth 100000 in
open Go.Proofs.YtdmlohoicgfdnaaDoor.Scan in
theorem scan_Print.calls (A0 : Option Addr) (c0 : Nat) (l0 : List (List Int)) (r : List Int) (w : World) (hr0 : Kd.C (Kd.slice 3 (Kd.int .i64)) w A0 l0.length l0) (hc0 : l0.length ≤ c0) (h : scan_Print.f l0 = some r) (hT : NumTab w) :
    Calls Tryd.prog 10 #[.slice A0 l0.length c0] w fun e w' => ∃ v0_ : Value, e = .returned (v0_) ∧ Kd.R (Kd.int .u8) 5 w' w.heap.size (fun _ => True) v0_ r ∧ Below w.heap.size w w' := by
  unfold scan_Print.f at h
  split at h
  case isFalse => cases h
  case isTrue hok =>
  obtain rfl := Option.some.inj h
  obtain ⟨hL, hN⟩ := hok
  have hmax0 := Kd.C_max hr0
  have HR0 := hidP hr0
  have HC0 := hidP hc0
  have HT := hidP hT
  have HL := hidP hL
  have HN := hidP hN
  clear hr0 hc0 hT hL hN h
  go_enter Tryd.func10, Tryd.ntmps10
  go_wp2
  go_loopg [3, 10] (l0.length + 1) (fun kq v3 v10 wr => ∃ (i : Nat), Hid (kq = l0.length + 1 - i) ∧ v10 = .int .i64 (i : Int) ∧ i ≤ l0.length ∧ Hid (Kd.R (Kd.int .u8) 5 wr w.heap.size (fun _ => True) v3 (textP (l0.take i))) ∧ Hid (Below w.heap.size w wr))
  case atStart => exact ⟨0, hidP rfl, rfl, by omega, hidP (Kd.R_nil _ _ _ _ _), hidP (Below.refl _ _)⟩
  case round =>
    obtain ⟨i, HI, rfl, hi, HO, HB⟩ := hrel
    by_cases hlt : i < l0.length
    · have t1 : decide ((i : Int) < (l0.length : Int)) = true := decide_eq_true (by omega)
      have t1n : decide (i < l0.length) = true := decide_eq_true (by omega)
      obtain ⟨ad, A1, c1, e1, hx1, hl1, hi1⟩ := at_L2 HR0.out (i : Int) (by omega) (by omega)
      cases e1
      have p1 : (0 ≤ (i : Int)) = True := eq_true (by omega)
      have q1 : ((i : Int) < (l0.length : Int)) = True := eq_true (by omega)
      rw [rd_L2_at hlt] at hx1 hl1 hi1
      rw [Int.toNat_natCast] at hx1
      have hx1' := (HB.out.cell (World.block_lt_of_cell? w _ hx1)).trans hx1
      have hmax1 := Kd.C_max hi1
      have HI1 := hidP hi1
      have HL1 := hidP hl1
      obtain ⟨line, hline⟩ : ∃ line, line = l0[i] := ⟨_, rfl⟩
      rw [← hline] at hx1 hx1' HI1 HL1 hmax1
      have HLINE := hidP hline
      clear hi1 hl1 hx1 hline
      go_wp2
      go_loopg [3, 16] (line.length + 1) (fun kq v3 v16 wr1 => ∃ (j : Nat), Hid (kq = line.length + 1 - j) ∧ v16 = .int .i64 (j : Int) ∧ j ≤ line.length ∧ Hid (Kd.R (Kd.int .u8) 5 wr1 w.heap.size (fun _ => True) v3 (textP (l0.take i) ++ sepI (line.take j))) ∧ Hid (Below w.heap.size w wr1))
      case atStart => exact ⟨0, hidP rfl, rfl, by omega, hidP (by have := HO.out; simpa [sepI] using this), HB⟩
      case round =>
        clear HO HB hx1'
        obtain ⟨j, HJ, rfl, hj, HO, HB⟩ := hrel
        by_cases hlj : j < line.length
        · have s1 : decide ((j : Int) < (line.length : Int)) = true := decide_eq_true (by omega)
          have s1n : decide (j < line.length) = true := decide_eq_true (by omega)
          obtain ⟨ad2, e2, hx2⟩ := Kd.at_int HI1.out (j : Int) (by omega) (by omega)
          cases e2
          rw [rd_atP hlj] at hx2
          rw [Int.toNat_natCast] at hx2
          have hx2' := (HB.out.cell (World.block_lt_of_cell? w _ hx2)).trans hx2
          have p2 : (0 ≤ (j : Int)) = True := eq_true (by omega)
          have q2 : ((j : Int) < (line.length : Int)) = True := eq_true (by omega)
          obtain ⟨n, hn⟩ : ∃ n, n = line[j] := ⟨_, rfl⟩
          rw [← hn] at hx2 hx2'
          clear hx2
          have hlen := textP_line_le hlt j
          rw [← HLINE.out] at hlen
          have hlen2 := HL.out
          have hrange := HN.out line (by rw [HLINE.out]; exact List.getElem_mem hlt) n (by rw [hn]; exact List.getElem_mem hlj)
          have hout : (if line.take j = [] then [] else sepI (line.take j) ++ [32]) ++ itoaI n = sepI (line.take (j + 1)) := by rw [List.take_succ_eq_append_getElem hlj, sepI_snoc, hn]
          have HOUT := hidP hout
          obtain ⟨xs, hxs⟩ : ∃ xs, xs = textP (l0.take i) ++ sepI (line.take j) := ⟨_, rfl⟩
          have hxl : xs.length ≤ 70368744177664 := by rw [hxs, List.length_append]; omega
          rw [← hxs] at HO
          have HXS := hidP hxs
          have HXL := hidP hxl
          obtain ⟨hr1, hr2⟩ := hrange
          have HR1 := hidP hr1
          have HR2 := hidP hr2
          clear hn hxs hxl hlen hlen2 hout hr1 hr2
          by_cases h0 : 0 < j
          · have g1 : decide (0 < (j : Int)) = true := decide_eq_true (by omega)
            have g1n : decide (0 < j) = true := decide_eq_true h0
            go_wp2_with (first
              | ((with_reducible refine gate_builtin (b := .append) (xs := #[.tmp 23, .tmp 24]) rfl ?_); at_builtin; refine Kd.R_append (Kd.int .u8) (w0 := w) w.heap.size rfl (.tmp 23) (.tmp 24) 25 5 (.int .u8 0) 1 rfl Tryd.underlying25 info5 rfl (by decide) (by omega) u3 xs 32 [.int .u8 32] (fun _ => True) (fun _ => False) rfl rfl ?aP (fun _ hk => hk.elim) (fun _ _ => trivial) ?aO ?aB ?aS ?aL ?_; (case aP => exact rfl); (case aO => exact HO.out); (case aB => exact HB.out); (case aS => exact HB.out.size); (case aL => have := HXL.out; omega); intro v25 w25 ho25 hb25 hg25 hat25; have HO25 := hidP ho25; have HB25 := hidP hb25; clear ho25 hb25 hg25 hat25)
              | (go_at_call 19; (with_reducible refine (append_int _ (xs ++ [32]) n HR1.out HR2.out w _ HT.out HB25.out HO25.out (by have := HXL.out; simp; omega)).mono ?_); rintro e w26 ⟨v26, rfl, ho26, hb26⟩; have HO26 := hidP ho26; have HB26 := hidP hb26; clear ho26 hb26))
            go_roundg (line.length + 1 - (j + 1))
            case measure => have := HJ.out; omega
            case rel => exact ⟨j + 1, hidP rfl, by go_num, by omega, hidP (by have h1 := HO26.out; have h2 := HOUT.out; have h3 := HXS.out; rw [if_neg (by intro h; have := congrArg List.length h; rw [List.length_take] at this; simp only [List.length_nil] at this; omega)] at h2; rw [← h2]; rw [h3] at h1; simpa using h1), HB26⟩
          · have g1 : decide (0 < (j : Int)) = false := decide_eq_false (by omega)
            have g1n : decide (0 < j) = false := decide_eq_false h0
            go_wp2_with (first
              | (go_at_call 19; (with_reducible refine (append_int _ xs n HR1.out HR2.out w _ HT.out HB.out HO.out (by have := HXL.out; omega)).mono ?_); rintro e w26 ⟨v26, rfl, ho26, hb26⟩; have HO26 := hidP ho26; have HB26 := hidP hb26; clear ho26 hb26))
            go_roundg (line.length + 1 - (j + 1))
            case measure => have := HJ.out; omega
            case rel => exact ⟨j + 1, hidP rfl, by go_num, by omega, hidP (by have h1 := HO26.out; have h2 := HOUT.out; have h3 := HXS.out; obtain rfl : j = 0 := (by omega); rw [← h2]; rw [h3] at h1; simpa [sepI] using h1), HB26⟩
        · have s1 : decide ((j : Int) < (line.length : Int)) = false := decide_eq_false (by omega)
          have s1n : decide (j < line.length) = false := decide_eq_false (by omega)
          obtain rfl : j = line.length := by omega
          have hlen := textP_line_le hlt line.length
          rw [← HLINE.out] at hlen
          have hlen2 := HL.out
          have HTS : Hid (textP (l0.take (i + 1)) = textP (l0.take i) ++ lineP line) := hidP (by rw [List.take_succ_eq_append_getElem hlt, textP_snoc, ← HLINE.out])
          have HTK : Hid (line.take line.length = line) := hidP (by simp)
          obtain ⟨xs, hxs⟩ : ∃ xs, xs = textP (l0.take i) ++ sepI (line.take line.length) := ⟨_, rfl⟩
          have hxl : xs.length ≤ 70368744177664 := by rw [hxs, List.length_append]; omega
          rw [← hxs] at HO
          have HXS := hidP hxs
          have HXL := hidP hxl
          clear hxs hxl hlen hlen2
          by_cases h0 : 0 < line.length
          · have g1 : decide (0 < (line.length : Int)) = true := decide_eq_true (by omega)
            have g1n : decide (0 < line.length) = true := decide_eq_true h0
            go_wp2_with (first
              | ((with_reducible refine gate_builtin (b := .append) (xs := #[.tmp 33, .tmp 34]) rfl ?_); at_builtin; refine Kd.R_append (Kd.int .u8) (w0 := w) w.heap.size rfl (.tmp 33) (.tmp 34) 25 5 (.int .u8 0) 1 rfl Tryd.underlying25 info5 rfl (by decide) (by omega) u3 xs 10 [.int .u8 10] (fun _ => True) (fun _ => False) rfl rfl ?aP (fun _ hk => hk.elim) (fun _ _ => trivial) ?aO ?aB ?aS ?aL ?_; (case aP => exact rfl); (case aO => exact HO.out); (case aB => exact HB.out); (case aS => exact HB.out.size); (case aL => have := HXL.out; omega); intro v25 w25 ho25 hb25 hg25 hat25; have HO25 := hidP ho25; have HB25 := hidP hb25; clear ho25 hb25 hg25 hat25))
            go_roundg (l0.length + 1 - (i + 1))
            case measure => have := HI.out; omega
            case rel => exact ⟨i + 1, hidP rfl, by go_num, by omega, hidP (by have h1 := HO25.out; have h2 := HXS.out; have h3 := HTS.out; rw [h3]; rw [h2, HTK.out] at h1; unfold lineP; rw [if_neg (by intro h; rw [h] at h0; simp at h0)]; simpa using h1), HB25⟩
          · have g1 : decide (0 < (line.length : Int)) = false := decide_eq_false (by omega)
            have g1n : decide (0 < line.length) = false := decide_eq_false h0
            go_wp2
            go_roundg (l0.length + 1 - (i + 1))
            case measure => have := HI.out; omega
            case rel => exact ⟨i + 1, hidP rfl, by go_num, by omega, hidP (by have h1 := HO.out; have h2 := HXS.out; have h3 := HTS.out; have h4 : line = [] := List.length_eq_zero_iff.mp (by omega); rw [h3]; rw [h2, HTK.out] at h1; rw [h4] at h1 ⊢; simpa [lineP, sepI] using h1), HB⟩
    · have t1 : decide ((i : Int) < (l0.length : Int)) = false := decide_eq_false (by omega)
      have t1n : decide (i < l0.length) = false := decide_eq_false (by omega)
      obtain rfl : i = l0.length := by omega
      have HTK : Hid (l0.take l0.length = l0) := hidP (by simp)
      go_wp2
      go_ret
      exact ⟨_, rfl, by have := HO.out; rw [HTK.out] at this; exact this, HB.out⟩

/-! ### haulierref04_digits: function 20 -/
def haulierref04_digits.l0 : Nat → Int → ByteArray → Bool → Option (ByteArray)
  | 0, _, _, _ => none
  | k + 1, x0, x3, x4 => if x0 = 0 then (if x4 = true then (if 1 + x3.size ≤ 9223372036854775807 then (some ((⟨#[45]⟩ : ByteArray) ++ x3)) else (none)) else (some x3)) else (if (Int.tmod x0 10) < 0 then ((some (([(wrap64 (48 + (wrap64 (-(Int.tmod x0 10))))) % 256] : List Int) : List Int)).bind fun y122 => (if (strOfNums y122).size + x3.size ≤ 9223372036854775807 then (haulierref04_digits.l0 k (wrap64 (Int.tdiv x0 10)) ((strOfNums y122) ++ x3) x4) else (none))) else ((some (([(wrap64 (48 + (Int.tmod x0 10))) % 256] : List Int) : List Int)).bind fun y125 => (if (strOfNums y125).size + x3.size ≤ 9223372036854775807 then (haulierref04_digits.l0 k (wrap64 (Int.tdiv x0 10)) ((strOfNums y125) ++ x3) x4) else (none))))
def haulierref04_digits.f (k : Nat) (a0 : Int) : Option (ByteArray) := if a0 = 0 then (some (⟨#[48]⟩ : ByteArray)) else (haulierref04_digits.l0 k a0 (⟨#[]⟩ : ByteArray) (decide (a0 < 0)))
theorem haulierref04_digits.mono_l : ∀ k, (∀ y0 y1 y2, LeO (haulierref04_digits.l0 k y0 y1 y2) (haulierref04_digits.l0 (k + 1) y0 y1 y2))
  | 0 => fun _ _ _ r h => by simp [haulierref04_digits.l0] at h
  | k + 1 => by
    have ih0 := haulierref04_digits.mono_l k
    · intro y0 y1 y2
      unfold haulierref04_digits.l0
      repeat' first
      | (with_reducible exact ih0 _ _ _)
      | (with_reducible exact LeO.refl _)
      | (with_reducible exact LeO.none _)
      | (with_reducible refine LeO.ite ?_ ?_)
      | (with_reducible refine LeO.bind ?_ (fun _ => ?_))
      | exact ih0 _ _ _
      | exact LeO.none _
      | refine LeO.ite ?_ ?_
      | refine LeO.bind ?_ (fun _ => ?_)
theorem haulierref04_digits.mono : ∀ a0 k, LeO (haulierref04_digits.f k a0) (haulierref04_digits.f (k + 1) a0) := by
  intro a0 k
  have ih0 := haulierref04_digits.mono_l k
  unfold haulierref04_digits.f
  repeat' first
      | (with_reducible exact ih0 _ _ _)
      | (with_reducible exact LeO.refl _)
      | (with_reducible exact LeO.none _)
      | (with_reducible refine LeO.ite ?_ ?_)
      | (with_reducible refine LeO.bind ?_ (fun _ => ?_))
      | exact ih0 _ _ _
      | exact LeO.none _
      | refine LeO.ite ?_ ?_
      | refine LeO.bind ?_ (fun _ => ?_)
set_option maxHeartbeats 8000000 in
set_option maxRecDepth 100000 in
theorem haulierref04_digits.calls (k : Nat) (a0 : Int) (r : ByteArray) (w : World) (h : haulierref04_digits.f k a0 = some r) :
    Calls Tryd.prog 20 #[.int .i64 a0] w fun e w' => e = .returned (.string r) ∧ Below w.heap.size w w' := by
  have HB := Aside0.mk (Below.refl w.heap.size w)
  have H : (if a0 = 0 then (some (⟨#[48]⟩ : ByteArray)) else (haulierref04_digits.l0 k a0 (⟨#[]⟩ : ByteArray) (decide (a0 < 0)))) = some r := h
  clear h
  by_cases c2 : a0 = 0
  · rw [if_pos c2] at H
    have c2b0 : (a0 == 0) = true := beq_iff_eq.mpr c2
    have c2b1 : (a0 != 0) = false := bne_eq_false_iff_eq.mpr c2
    clear c2
    obtain rfl := Option.some.inj H
    go_enter Tryd.func20, Tryd.ntmps20
    go_wp2
    go_ret
    exact ⟨by first | rfl | (simp [errW_none, errW_some] <;> rfl) | (simp [*, errW_none, errW_some] <;> rfl), by repeat (first | (with_reducible first | exact HB.out | apply below_alloc | apply pw_below_drewN | apply below_drew1) | exact HB.out)⟩
  · rw [if_neg c2] at H
    have c2b0 : (a0 == 0) = false := beq_eq_false_iff_ne.mpr c2
    have c2b1 : (a0 != 0) = true := bne_iff_ne.mpr c2
    have H' := Aside0.mk H
    clear H
    go_enter Tryd.func20, Tryd.ntmps20
    go_wp2
    go_loopg [0, 3] k (fun kq v0 v3 w' => ∃ (x0_1 : Int) (x3_1 : ByteArray), v0 = .int .i64 x0_1 ∧ v3 = .string x3_1 ∧ Aside0 (haulierref04_digits.l0 kq x0_1 x3_1 (decide (a0 < 0)) = some r) ∧ Aside0 (kq ≤ k) ∧ Aside0 (Below w.heap.size w w'))
    case atStart => exact ⟨(a0), ((⟨#[]⟩ : ByteArray)), (by first | rfl | (simp; done) | (simp [*]; done)), (by first | rfl | (simp; done) | (simp [*]; done)), H', ⟨Nat.le_refl _⟩, ⟨by repeat (first | (with_reducible first | exact HB.out | apply below_alloc | apply pw_below_drewN | apply below_drew1) | exact HB.out)⟩⟩
    case round =>
      clear H'
      try clear c2
      try clear c2b0
      try clear c2b1
      try clear p2
      obtain ⟨x0_1, x3_1, rfl, rfl, HA, HK1, HB⟩ := hrel
      cases gk with
      | zero => exact absurd HA.out (by simp [haulierref04_digits.l0])
      | succ k1 =>
        have H := HA.out
        clear HA
        simp only [haulierref04_digits.l0] at H
        by_cases c3 : x0_1 = 0
        · rw [if_pos c3] at H
          have c3b0 : (x0_1 == 0) = true := beq_iff_eq.mpr c3
          have c3b1 : (x0_1 != 0) = false := bne_eq_false_iff_eq.mpr c3
          clear c3
          by_cases c4 : (decide (a0 < 0)) = true
          · rw [if_pos c4] at H
            have c4b0 : (decide (a0 < 0)) = true := c4
            have c4b0x : a0 < 0 := of_decide_eq_true c4b0
            clear c4
            by_cases c5 : 1 + x3_1.size ≤ 9223372036854775807
            · rw [if_pos c5] at H
              have c5b0 := eq_true c5
              have c5b1 : decide (1 + x3_1.size ≤ 9223372036854775807) = true := decide_eq_true c5
              try have c5b2 : (9223372036854775807 < 1 + x3_1.size) = False := eq_false (Nat.not_lt.2 c5)
              obtain rfl := Option.some.inj H
              go_wp2
              go_ret
              exact ⟨by first | rfl | (simp [errW_none, errW_some] <;> rfl) | (simp [*, errW_none, errW_some] <;> rfl), by repeat (first | (with_reducible first | exact HB.out | apply below_alloc | apply pw_below_drewN | apply below_drew1) | exact HB.out)⟩
            · rw [if_neg c5] at H
              exact absurd H (by simp)
          · rw [if_neg c4] at H
            have c4b0 : (decide (a0 < 0)) = false := by simpa using c4
            have c4b0x : 0 ≤ a0 := by have := of_decide_eq_false c4b0; omega
            clear c4
            obtain rfl := Option.some.inj H
            go_wp2
            go_ret
            exact ⟨by first | rfl | (simp [errW_none, errW_some] <;> rfl) | (simp [*, errW_none, errW_some] <;> rfl), by repeat (first | (with_reducible first | exact HB.out | apply below_alloc | apply pw_below_drewN | apply below_drew1) | exact HB.out)⟩
        · rw [if_neg c3] at H
          have c3b0 : (x0_1 == 0) = false := beq_eq_false_iff_ne.mpr c3
          have c3b1 : (x0_1 != 0) = true := bne_iff_ne.mpr c3
          by_cases c6 : (Int.tmod x0_1 10) < 0
          · rw [if_pos c6] at H
            have c6b0 : decide ((Int.tmod x0_1 10) < 0) = true := decide_eq_true c6
            clear c6
            obtain ⟨y122, hy122⟩ : ∃ y_ : List Int, y_ = (([(wrap64 (48 + (wrap64 (-(Int.tmod x0_1 10))))) % 256] : List Int)) := ⟨_, rfl⟩
            replace H : (if (strOfNums y122).size + x3_1.size ≤ 9223372036854775807 then (haulierref04_digits.l0 k1 (wrap64 (Int.tdiv x0_1 10)) ((strOfNums y122) ++ x3_1) (decide (a0 < 0))) else (none)) = some r := by first | (rw [hy122]; with_reducible exact H) | (have H2_ := (Option.bind_some _ _).symm.trans H; rw [hy122]; with_reducible exact H2_) | (have H2_ := (Option.bind_some _ _).symm.trans H; with_reducible exact H2_) | with_reducible exact H | (rw [hy122]; exact H) | exact H
            have Ny122 := Aside0.mk hy122
            clear hy122
            by_cases c7 : (strOfNums y122).size + x3_1.size ≤ 9223372036854775807
            · rw [if_pos c7] at H
              have c7b0 := eq_true c7
              have c7b1 : decide ((strOfNums y122).size + x3_1.size ≤ 9223372036854775807) = true := decide_eq_true c7
              try have c7b2 : (9223372036854775807 < (strOfNums y122).size + x3_1.size) = False := eq_false (Nat.not_lt.2 c7)
              have H' := Aside0.mk H
              clear H
              go_wp2_with (first | ((with_reducible refine gate_dst (N := 21) rfl ?_); refine Kd.R_lit (Kd.int .u8) _ 5 ?hg (N := 21) ?hd (xs := ([(wrap64 (48 + (wrap64 (-(Int.tmod x0_1 10))))) % 256] : List Int)) (inner := [.int .u8 ((wrap64 (48 + (wrap64 (-(Int.tmod x0_1 10))))) % 256)]) (ok := fun _ => True) (okp := fun _ => True) ?hr ?hp (fun _ hk => hk) trivial (Below.refl _ _) (Nat.le_refl _) (by simp) ?_; (case hd => rfl); (case hg => rfl); (case hr => first | (go_simp; done) | (go_simp; rfl)); (case hp => exact (Reps.one (show Kd.M (Kd.int .u8) _ _ _ ((wrap64 (48 + (wrap64 (-(Int.tmod x0_1 10))))) % 256) [.int .u8 ((wrap64 (48 + (wrap64 (-(Int.tmod x0_1 10))))) % 256)] from rfl) (Reps.none _ _))); intro v123 w8 ho9 hb hg_ hnew_; clear hg_ hnew_; (first | rw [← Ny122.out] at ho9 | (simp only [Int.reduceToNat] at ho9; rw [← Ny122.out] at ho9)); have n0_ := Aside0.mk (Kd.R_lower ho9 (below_size (by repeat (first | (with_reducible first | exact HB.out | apply below_alloc | apply pw_below_drewN | apply below_drew1) | exact HB.out)))); have n1_ := Aside0.mk (below_step (by repeat (first | (with_reducible first | exact HB.out | apply below_alloc | apply pw_below_drewN | apply below_drew1) | exact HB.out)) hb); clear HB; have HO124 := n0_; have HB := n1_; clear n0_ n1_; clear hb ho9; have hcv10 := own_string (P := Tryd.prog) Tryd.underlying25 Tryd.underlying5 Tryd.underlying9 (Kd.own_of_R HO124.out)))
              go_roundg k1
              case measure => have := HK1.out; omega
              case rel => exact ⟨(wrap64 (Int.tdiv x0_1 10)), ((strOfNums y122) ++ x3_1), (by first | rfl | (simp; done) | (simp [*]; done)), (by first | rfl | (simp; done) | (simp [*]; done)), H', ⟨by have := HK1.out; omega⟩, ⟨by repeat (first | (with_reducible first | exact HB.out | apply below_alloc | apply pw_below_drewN | apply below_drew1) | exact HB.out)⟩⟩
            · rw [if_neg c7] at H
              exact absurd H (by simp)
          · rw [if_neg c6] at H
            have c6b0 : decide ((Int.tmod x0_1 10) < 0) = false := decide_eq_false c6
            clear c6
            obtain ⟨y125, hy125⟩ : ∃ y_ : List Int, y_ = (([(wrap64 (48 + (Int.tmod x0_1 10))) % 256] : List Int)) := ⟨_, rfl⟩
            replace H : (if (strOfNums y125).size + x3_1.size ≤ 9223372036854775807 then (haulierref04_digits.l0 k1 (wrap64 (Int.tdiv x0_1 10)) ((strOfNums y125) ++ x3_1) (decide (a0 < 0))) else (none)) = some r := by first | (rw [hy125]; with_reducible exact H) | (have H2_ := (Option.bind_some _ _).symm.trans H; rw [hy125]; with_reducible exact H2_) | (have H2_ := (Option.bind_some _ _).symm.trans H; with_reducible exact H2_) | with_reducible exact H | (rw [hy125]; exact H) | exact H
            have Ny125 := Aside0.mk hy125
            clear hy125
            by_cases c11 : (strOfNums y125).size + x3_1.size ≤ 9223372036854775807
            · rw [if_pos c11] at H
              have c11b0 := eq_true c11
              have c11b1 : decide ((strOfNums y125).size + x3_1.size ≤ 9223372036854775807) = true := decide_eq_true c11
              try have c11b2 : (9223372036854775807 < (strOfNums y125).size + x3_1.size) = False := eq_false (Nat.not_lt.2 c11)
              have H' := Aside0.mk H
              clear H
              go_wp2_with (first | ((with_reducible refine gate_dst (N := 21) rfl ?_); refine Kd.R_lit (Kd.int .u8) _ 5 ?hg (N := 21) ?hd (xs := ([(wrap64 (48 + (Int.tmod x0_1 10))) % 256] : List Int)) (inner := [.int .u8 ((wrap64 (48 + (Int.tmod x0_1 10))) % 256)]) (ok := fun _ => True) (okp := fun _ => True) ?hr ?hp (fun _ hk => hk) trivial (Below.refl _ _) (Nat.le_refl _) (by simp) ?_; (case hd => rfl); (case hg => rfl); (case hr => first | (go_simp; done) | (go_simp; rfl)); (case hp => exact (Reps.one (show Kd.M (Kd.int .u8) _ _ _ ((wrap64 (48 + (Int.tmod x0_1 10))) % 256) [.int .u8 ((wrap64 (48 + (Int.tmod x0_1 10))) % 256)] from rfl) (Reps.none _ _))); intro v126 w12 ho13 hb hg_ hnew_; clear hg_ hnew_; (first | rw [← Ny125.out] at ho13 | (simp only [Int.reduceToNat] at ho13; rw [← Ny125.out] at ho13)); have n0_ := Aside0.mk (Kd.R_lower ho13 (below_size (by repeat (first | (with_reducible first | exact HB.out | apply below_alloc | apply pw_below_drewN | apply below_drew1) | exact HB.out)))); have n1_ := Aside0.mk (below_step (by repeat (first | (with_reducible first | exact HB.out | apply below_alloc | apply pw_below_drewN | apply below_drew1) | exact HB.out)) hb); clear HB; have HO127 := n0_; have HB := n1_; clear n0_ n1_; clear hb ho13; have hcv14 := own_string (P := Tryd.prog) Tryd.underlying25 Tryd.underlying5 Tryd.underlying9 (Kd.own_of_R HO127.out)))
              go_roundg k1
              case measure => have := HK1.out; omega
              case rel => exact ⟨(wrap64 (Int.tdiv x0_1 10)), ((strOfNums y125) ++ x3_1), (by first | rfl | (simp; done) | (simp [*]; done)), (by first | rfl | (simp; done) | (simp [*]; done)), H', ⟨by have := HK1.out; omega⟩, ⟨by repeat (first | (with_reducible first | exact HB.out | apply below_alloc | apply pw_below_drewN | apply below_drew1) | exact HB.out)⟩⟩
            · rw [if_neg c11] at H
              exact absurd H (by simp)

end Go.Proofs.YtdmlohoicgfdnaaDoor.PA
