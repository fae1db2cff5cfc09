-- Printed for this claim by wip/tools/xprint.py over the kit's print; the contracts marked BY HAND are this session's own.
import Derived.Test.YtdkhajgfifaibaaDoorPAx0
namespace Go.Proofs.YtdkhajgfifaibaaDoor.PA
open Go.RowKit Go.Proofs.YtdkhajgfifaibaaDoorW.PrintWords Go.Proofs.YtdkhajgfifaibaaDoorW.PrintLast Go.Proofs.YtdkhajgfifaibaaDoorW.PrintMore
attribute [local go_sem] max2_int min2_int max_two min_two max_three min_three max_four min_four   -- for this text's walks alone
set_option linter.unusedVariables false
set_option linter.unusedSimpArgs false

/-! ### slices_Equal_int_int: function 30 -/
def slices_Equal_int_int.l0 : Nat → List Int → List Int → Int → Int → Option (Bool)
  | 0, _, _, _, _ => none
  | k + 1, x0, x1, x12, x13 => if x13 < x12 then (if 0 ≤ x13 then (if x13 < (x0.length : Int) then (if x13 < (x1.length : Int) then (if (rd x0 x13) = (rd x1 x13) then (slices_Equal_int_int.l0 k x0 x1 x12 (wrap64 (x13 + 1))) else (some false)) else (none)) else (none)) else (none)) else (some true)
def slices_Equal_int_int.f (k : Nat) (l0 : List Int) (l1 : List Int) : Option (Bool) := if (l0.length : Int) = (l1.length : Int) then (slices_Equal_int_int.l0 k l0 l1 (l0.length : Int) 0) else (some false)
theorem slices_Equal_int_int.mono_l : ∀ k, (∀ y0 y1 y2 y3, LeO (slices_Equal_int_int.l0 k y0 y1 y2 y3) (slices_Equal_int_int.l0 (k + 1) y0 y1 y2 y3))
  | 0 => fun _ _ _ _ r h => by simp [slices_Equal_int_int.l0] at h
  | k + 1 => by
    have ih0 := slices_Equal_int_int.mono_l k
    · intro y0 y1 y2 y3
      unfold slices_Equal_int_int.l0
      repeat' first
      | (with_reducible exact ih0 _ _ _ _)
      | (with_reducible exact LeO.refl _)
      | (with_reducible exact LeO.none _)
      | (with_reducible refine LeO.ite ?_ ?_)
      | (with_reducible refine LeO.bind ?_ (fun _ => ?_))
      | exact ih0 _ _ _ _
      | exact LeO.none _
      | refine LeO.ite ?_ ?_
      | refine LeO.bind ?_ (fun _ => ?_)
theorem slices_Equal_int_int.mono : ∀ a0 a1 k, LeO (slices_Equal_int_int.f k a0 a1) (slices_Equal_int_int.f (k + 1) a0 a1) := by
  intro a0 a1 k
  have ih0 := slices_Equal_int_int.mono_l k
  unfold slices_Equal_int_int.f
  repeat' first
      | (with_reducible exact ih0 _ _ _ _)
      | (with_reducible exact LeO.refl _)
      | (with_reducible exact LeO.none _)
      | (with_reducible refine LeO.ite ?_ ?_)
      | (with_reducible refine LeO.bind ?_ (fun _ => ?_))
      | exact ih0 _ _ _ _
      | exact LeO.none _
      | refine LeO.ite ?_ ?_
      | refine LeO.bind ?_ (fun _ => ?_)
set_option maxHeartbeats 16000000 in
set_option maxRecDepth 100000 in
theorem slices_Equal_int_int.calls (k : Nat) (A0 : Option Addr) (c0 : Nat) (l0 : List Int) (A1 : Option Addr) (c1 : Nat) (l1 : List Int) (r : Bool) (w : World) (hr0 : Kd.C (Kd.int .i64) w A0 l0.length l0) (hc0 : l0.length ≤ c0) (hr1 : Kd.C (Kd.int .i64) w A1 l1.length l1) (hc1 : l1.length ≤ c1) (h : slices_Equal_int_int.f k l0 l1 = some r) :
  Calls Tryd.prog 30 #[.slice A0 l0.length c0, .slice A1 l1.length c1] w fun e w' => e = .returned (.bool r) ∧ Drawn0 w w' := by
 have HR0 := zqi hr0
 have HC0 := zqi hc0
 clear hr0 hc0
 have HR1 := zqi hr1
 have HC1 := zqi hc1
 clear hr1 hc1
 have H : (if (l0.length : Int) = (l1.length : Int) then (slices_Equal_int_int.l0 k l0 l1 (l0.length : Int) 0) else (some false)) = some r := h
 clear h
 by_cases c3 : (l0.length : Int) = (l1.length : Int)
 ·
  rw [if_pos c3] at H
  have c3b0 : ((l0.length : Int) == (l1.length : Int)) = true := beq_iff_eq.mpr c3
  have c3b1 : ((l0.length : Int) != (l1.length : Int)) = false := bne_eq_false_iff_eq.mpr c3
  have c3b2 : (l0.length == l1.length) = true := by first | simpa using c3 | (simp at c3 ⊢; omega)
  clear c3
  have H' := zqi H
  clear H
  go_enter Tryd.func30, Tryd.ntmps30
  go_wp2
  repeat (go_quiet (fail); try go_wp2)
  go_loopg [13] k (fun kq v13 w' => ∃ (x13_1 : Int), v13 = .int .i64 x13_1 ∧ Aside0 (slices_Equal_int_int.l0 kq l0 l1 (l0.length : Int) x13_1 = some r) ∧ Aside0 (kq ≤ k) ∧ Drawn0 w w')
  case atStart => exact ⟨(0), (by first | rfl | (simp; done) | (simp [*]; done)), H', ⟨Nat.le_refl _⟩, by repeat (first | exact Drawn0.refl _ | apply Drawn0.step)⟩
  case round =>
   clear H'
   try clear c1
   try clear p2
   try clear c3
   try clear c3b0
   try clear c3b1
   try clear c3b2
   obtain ⟨x13_1, rfl, HA, HK1, ⟨m1, rfl⟩⟩ := hrel
   cases gk with
   | zero => exact absurd HA.out (by simp [slices_Equal_int_int.l0])
   | succ k1 =>
    have H := HA.out
    clear HA
    simp only [slices_Equal_int_int.l0] at H
    by_cases c4 : x13_1 < (l0.length : Int)
    ·
     rw [if_pos c4] at H
     have c4b0 : decide (x13_1 < (l0.length : Int)) = true := decide_eq_true c4
     clear c4
     by_cases c5 : 0 ≤ x13_1
     ·
      rw [if_pos c5] at H
      have c5b0 : decide (0 ≤ x13_1) = true := decide_eq_true c5
      clear c5
      by_cases c6 : x13_1 < (l0.length : Int)
      ·
       rw [if_pos c6] at H
       have c6b0 : decide (x13_1 < (l0.length : Int)) = true := decide_eq_true c6
       clear c6
       by_cases c7 : x13_1 < (l1.length : Int)
       ·
        rw [if_pos c7] at H
        have c7b0 : decide (x13_1 < (l1.length : Int)) = true := decide_eq_true c7
        clear c7
        by_cases c8 : (rd l0 x13_1) = (rd l1 x13_1)
        ·
         rw [if_pos c8] at H
         have c8b0 : ((rd l0 x13_1) == (rd l1 x13_1)) = true := beq_iff_eq.mpr c8
         have c8b1 : ((rd l0 x13_1) != (rd l1 x13_1)) = false := bne_eq_false_iff_eq.mpr c8
         clear c8
         have H' := zqi H
         clear H
         have p101 : 0 ≤ (x13_1 : Int) := of_decide_eq_true (by first | (with_reducible assumption) | assumption)
         have q101 : x13_1 < (l0.length : Int) := of_decide_eq_true (by first | (with_reducible assumption) | assumption)
         obtain ⟨ad101, e101, hx101_0⟩ := Kd.at_int HR0.out x13_1 p101 q101
         cases e101
         replace p101 := eq_true p101
         replace q101 := eq_true q101
         have p102 : 0 ≤ (x13_1 : Int) := of_decide_eq_true (by first | (with_reducible assumption) | assumption)
         have q102 : x13_1 < (l1.length : Int) := of_decide_eq_true (by first | (with_reducible assumption) | assumption)
         obtain ⟨ad102, e102, hx102_0⟩ := Kd.at_int HR1.out x13_1 p102 q102
         cases e102
         replace p102 := eq_true p102
         replace q102 := eq_true q102
         go_wp2
         repeat (go_quiet (fail); try go_wp2)
         go_roundg k1
         case measure => have := HK1.out; omega
         case rel => exact ⟨(wrap64 (x13_1 + 1)), (by first | rfl | (simp; done) | (simp [*]; done)), H', ⟨by have := HK1.out; omega⟩, by repeat (first | exact Drawn0.refl _ | apply Drawn0.step)⟩
        ·
         rw [if_neg c8] at H
         have c8b0 : ((rd l0 x13_1) == (rd l1 x13_1)) = false := beq_eq_false_iff_ne.mpr c8
         have c8b1 : ((rd l0 x13_1) != (rd l1 x13_1)) = true := bne_iff_ne.mpr c8
         obtain rfl := Option.some.inj H
         have p101 : 0 ≤ (x13_1 : Int) := of_decide_eq_true (by first | (with_reducible assumption) | assumption)
         have q101 : x13_1 < (l0.length : Int) := of_decide_eq_true (by first | (with_reducible assumption) | assumption)
         obtain ⟨ad101, e101, hx101_0⟩ := Kd.at_int HR0.out x13_1 p101 q101
         cases e101
         replace p101 := eq_true p101
         replace q101 := eq_true q101
         have p102 : 0 ≤ (x13_1 : Int) := of_decide_eq_true (by first | (with_reducible assumption) | assumption)
         have q102 : x13_1 < (l1.length : Int) := of_decide_eq_true (by first | (with_reducible assumption) | assumption)
         obtain ⟨ad102, e102, hx102_0⟩ := Kd.at_int HR1.out x13_1 p102 q102
         cases e102
         replace p102 := eq_true p102
         replace q102 := eq_true q102
         go_wp2
         repeat (go_quiet (fail); try go_wp2)
         go_ret
         exact ⟨by first | rfl | (simp; done) | (simp [*]; done), by repeat (first | exact Drawn0.refl _ | apply Drawn0.step)⟩
       ·
        rw [if_neg c7] at H
        exact absurd H (by simp)
      ·
       rw [if_neg c6] at H
       exact absurd H (by simp)
     ·
      rw [if_neg c5] at H
      exact absurd H (by simp)
    ·
     rw [if_neg c4] at H
     have c4b0 : decide (x13_1 < (l0.length : Int)) = false := decide_eq_false c4
     clear c4
     obtain rfl := Option.some.inj H
     go_wp2
     repeat (go_quiet (fail); try go_wp2)
     go_ret
     exact ⟨by first | rfl | (simp; done) | (simp [*]; done), by repeat (first | exact Drawn0.refl _ | apply Drawn0.step)⟩
 ·
  rw [if_neg c3] at H
  have c3b0 : ((l0.length : Int) == (l1.length : Int)) = false := beq_eq_false_iff_ne.mpr c3
  have c3b1 : ((l0.length : Int) != (l1.length : Int)) = true := bne_iff_ne.mpr c3
  have c3b2 : (l0.length == l1.length) = false := by first | simpa using c3 | (simp at c3 ⊢; omega)
  obtain rfl := Option.some.inj H
  go_enter Tryd.func30, Tryd.ntmps30
  go_wp2
  repeat (go_quiet (fail); try go_wp2)
  go_ret
  exact ⟨by first | rfl | (simp; done) | (simp [*]; done), by repeat (first | exact Drawn0.refl _ | apply Drawn0.step)⟩

/-! ### slices_swapRangeCmpFunc_int: function 65, BY HAND -/

section
open Go.Shelf Go.Lib Go.Sort
theorem hidS {p : Prop} (h : p) : Hid p := h
theorem asideS {p : Prop} (h : p) : Aside p := h
set_option maxHeartbeats 4000000 in
set_option maxRecDepth 1000000 in
theorem swapRange_s {α : Type} [Inhabited α] (enc : α → Value) (g : Nat) (cb : Array Value) (blk off cap a b n : Nat) (d0 d : Array α) (w0 w : World)
    (R : Row1 enc w0 blk off d0) (hs : d0.size = d.size) (S : SW enc w0 blk off d w) (ha : a + n ≤ d.size) (hb : b + n ≤ d.size) (hsz : d.size < 4611686018427387904) :
    Calls Tryd.prog 65 #[.slice (some ⟨blk, off, none⟩) d.size cap, .int .i64 a, .int .i64 b, .int .i64 n, .func (.func g) #[] cb] w fun e w' => e = .returned (.tuple #[]) ∧ SW enc w0 blk off (swRange a b n n d) w' := by
  have hcl0 := R.hO.cells
  simp only [Value.cells] at hcl0
  have hst := R.hO.store Tryd.prog
  have mixed : Tryd.prog.follows Departure.mixedOrders = true := by kernel_rfl
  have S0 : Aside (SW enc w0 blk off d w) := S
  clear S
  go_enter Tryd.func65, Tryd.ntmps65
  go_wp2
  go_loopg [10] n (fun kx s8 wr => ∃ (i q0 : Nat) (dk : Array α), s8 = .int .i64 i ∧ i + q0 = n ∧ q0 ≤ kx ∧ dk.size = d.size ∧ Aside (SW enc w0 blk off dk wr) ∧ Hid (swRange a b n q0 dk = swRange a b n n d))
  case atStart => exact ⟨0, n, d, rfl, by omega, Nat.le_refl _, rfl, S0, rfl⟩
  case round =>
    clear S0
    obtain ⟨i, q0, dk, rfl, hkx, hq0, hds, S1, heq⟩ := hrel
    by_cases hlt : i < n
    · have hlt' : (i : Int) < (n : Int) := by omega
      obtain ⟨q, rfl⟩ : ∃ q, q0 = q + 1 := ⟨q0 - 1, by omega⟩
      go_wp2_with fail
      obtain ⟨iN101, hiN101⟩ : ∃ q_, q_ = a + i := ⟨_, rfl⟩
      obtain ⟨jN101, hjN101⟩ : ∃ q_, q_ = b + i := ⟨_, rfl⟩
      have ea101 : ((a : Int) + (i : Int)).toNat = iN101 := by omega
      have pa101 : (0 : Int) ≤ (a : Int) + (i : Int) := by omega
      have ba101 : (a : Int) + (i : Int) < (d.size : Int) := by omega
      have ra101 : IntKind.i64.wrap ((a : Int) + (i : Int)) = (a : Int) + (i : Int) := by rw [IntKind.wrap_i64]; omega
      have ec101 : ((b : Int) + (i : Int)).toNat = jN101 := by omega
      have pc101 : (0 : Int) ≤ (b : Int) + (i : Int) := by omega
      have bc101 : (b : Int) + (i : Int) < (d.size : Int) := by omega
      have rc101 : IntKind.i64.wrap ((b : Int) + (i : Int)) = (b : Int) + (i : Int) := by rw [IntKind.wrap_i64]; omega
      obtain ⟨x101, hx101⟩ : ∃ x, x = dk[a + i]! := ⟨_, rfl⟩
      obtain ⟨y101, hy101⟩ : ∃ x, x = dk[b + i]! := ⟨_, rfl⟩
      have S2 : Aside (SW enc w0 blk off (swp dk (a + i) (b + i)) ((wr.setCell ⟨blk, off + iN101, none⟩ (enc y101)).setCell ⟨blk, off + jN101, none⟩ (enc x101)).drew) := by rw [hiN101, hjN101, hx101, hy101]; exact S1.out.swapped R (a + i) (b + i) (by omega) (by omega)
      have c101a := S1.out.c1 R (by omega) (a + i) (by omega)
      have c101b := S1.out.c1 R (by omega) (b + i) (by omega)
      have f101a := S1.out.f1 R (by omega) (a + i) (by omega)
      have f101b := S1.out.f1 R (by omega) (b + i) (by omega)
      obtain ⟨u101, c101c⟩ := S1.out.c2 R (by omega) (a + i) (b + i) (by omega) (by omega) (enc y101)
      rw [← hjN101, ← hiN101] at c101c
      rw [← hx101, ← hiN101] at c101a
      rw [← hy101, ← hjN101] at c101b
      rw [← hiN101] at f101a
      rw [← hjN101] at f101b
      clear S1 hx101 hy101 hiN101 hjN101
      go_wp2_with fail
      go_big_region_o
      clear c101a c101b c101c f101a f101b
      generalize ((wr.setCell ⟨blk, off + iN101, none⟩ (enc y101)).setCell ⟨blk, off + jN101, none⟩ (enc x101)).drew = w2 at S2 ⊢
      clear ea101 ec101
      go_wp2
      go_roundg q
      case measure => omega
      case rel =>
        have e1 : n - (q + 1) = i := by omega
        have h_ : swRange a b n q (swp dk (a + (n - (q + 1))) (b + (n - (q + 1)))) = swRange a b n n d := heq.out
        rw [e1] at h_
        exact ⟨i + 1, q, _, by first | rfl | go_num, by omega, Nat.le_refl _, by rw [size_swp]; exact hds, S2, hidS h_⟩
    · have hlt' : ¬ (i : Int) < (n : Int) := by omega
      obtain rfl : q0 = 0 := by omega
      go_wp2
      go_end0
      exact ⟨rfl, by rw [← heq.out]; exact S1.out⟩
end

/-! ### slices_rotateCmpFunc_int: function 59, BY HAND -/

section
open Go.Shelf Go.Lib Go.Sort
set_option maxHeartbeats 4000000 in
set_option maxRecDepth 1000000 in
theorem rotate_s {α : Type} [Inhabited α] (enc : α → Value) (g : Nat) (cb : Array Value) (blk off cap a m b : Nat) (d0 d : Array α) (w0 w : World)
    (R : Row1 enc w0 blk off d0) (hs : d0.size = d.size) (S : SW enc w0 blk off d w) (ham : a < m) (hmb : m < b) (hb : b ≤ d.size) (hsz : d.size < 4611686018427387904) :
    Calls Tryd.prog 59 #[.slice (some ⟨blk, off, none⟩) d.size cap, .int .i64 a, .int .i64 m, .int .i64 b, .func (.func g) #[] cb] w fun e w' => e = .returned (.tuple #[]) ∧ ∃ d', Rot a m b d d' ∧ SW enc w0 blk off d' w' := by
  have S0 : Aside (SW enc w0 blk off d w) := S
  clear S
  go_enter Tryd.func59, Tryd.ntmps59
  go_wp2
  go_loopg [10, 11] (b - a) (fun kx s8 s9 wr => ∃ (i j : Nat) (dk : Array α), s8 = .int .i64 i ∧ s9 = .int .i64 j ∧ 0 < i ∧ i ≤ m - a ∧ 0 < j ∧ j ≤ b - m ∧ i + j ≤ kx ∧ dk.size = d.size ∧ Aside (SW enc w0 blk off dk wr) ∧ Hid (∀ d', Rot (m - i) m (m + j) dk d' → Rot a m b d d'))
  case atStart => exact ⟨m - a, b - m, d, by first | rfl | go_num | (congr 1; omega), by first | rfl | go_num | (congr 1; omega), by omega, by omega, by omega, by omega, by omega, rfl, S0, hidS (fun d' h => by rwa [show m - (m - a) = a by omega, show m + (b - m) = b by omega] at h)⟩
  case round =>
    clear S0
    obtain ⟨i, j, dk, rfl, rfl, hi0, hi, hj0, hj, hkx, hds, S1, heq⟩ := hrel
    have em : ((m - i : Nat) : Int) = (m : Int) - (i : Int) := by omega
    have em2 : ((m + j - i : Nat) : Int) = (m : Int) + (j : Int) - (i : Int) := by omega
    by_cases hij : i = j
    · subst hij
      have hc := swapRange_s enc g cb blk off cap (m - i) m i d0 dk w0 wr R (hs.trans hds.symm) S1.out (by omega) (by omega) (by omega)
      rw [em, hds] at hc
      have HCC := hidS hc
      clear hc
      go_wp2_with (go_at_call 65; refine HCC.out.mono ?_; rintro e w1 ⟨rfl, hw⟩; have S2 := hidS hw; clear hw)
      go_end0
      exact ⟨rfl, _, heq.out _ (rot_last m i dk (by omega) (by omega)), S2.out⟩
    · have hne : ¬ (i : Int) = (j : Int) := by omega
      by_cases hgt : j < i
      · have hg' : (j : Int) < (i : Int) := by omega
        have hc := swapRange_s enc g cb blk off cap (m - i) m j d0 dk w0 wr R (hs.trans hds.symm) S1.out (by omega) (by omega) (by omega)
        rw [em, hds] at hc
        have HCC := hidS hc
        clear hc
        have ge := swRange_get (m - i) m j (by omega) j dk (Nat.le_refl _) (by omega)
        have hz := ge.1
        clear ge
        go_wp2_with (go_at_call 65; refine HCC.out.mono ?_; rintro e w1 ⟨rfl, hw⟩; have S2 := asideS hw; clear hw)
        go_roundg (i - j + j)
        case measure => omega
        case rel => exact ⟨i - j, j, _, by first | rfl | go_num | (congr 1; omega), rfl, by omega, by omega, by omega, by omega, Nat.le_refl _, hz.trans hds, S2, hidS (fun d' h => heq.out d' (rot_left m i j dk d' (by omega) hgt (by omega) h))⟩
      · have hg' : ¬ (j : Int) < (i : Int) := by omega
        have hc := swapRange_s enc g cb blk off cap (m - i) (m + j - i) i d0 dk w0 wr R (hs.trans hds.symm) S1.out (by omega) (by omega) (by omega)
        rw [em, em2, hds] at hc
        have HCC := hidS hc
        clear hc
        have ge := swRange_get (m - i) (m + j - i) i (by omega) i dk (Nat.le_refl _) (by omega)
        have hz := ge.1
        clear ge
        go_wp2_with (go_at_call 65; refine HCC.out.mono ?_; rintro e w1 ⟨rfl, hw⟩; have S2 := asideS hw; clear hw)
        go_roundg (i + (j - i))
        case measure => omega
        case rel => exact ⟨i, j - i, _, rfl, by first | rfl | go_num | (congr 1; omega), by omega, by omega, by omega, by omega, Nat.le_refl _, hz.trans hds, S2, hidS (fun d' h => heq.out d' (rot_right m i j dk d' (by omega) (by omega) (by omega) h))⟩
end

/-! ### slices_insertionSortCmpFunc_int: function 50, BY HAND -/

section
open Go.Shelf Go.Lib Go.Sort
set_option maxHeartbeats 16000000 in
set_option maxRecDepth 1000000 in
theorem insertion_s {α : Type} [Inhabited α] (enc : α → Value) (cf : α → α → Int) (g : Nat) (cb : Array Value) (blk off cap a b : Nat) (d0 d : Array α) (w0 w : World)
    (eg : ∀ args w, (callFunc g args).run Tryd.prog w = .ok (.enter g args) w) (hcmp : CmpLays1 Tryd.prog g cb enc cf blk off d0.size w0) (R : Row1 enc w0 blk off d0) (hs : d0.size = d.size) (S : SW enc w0 blk off d w) (hab : a ≤ b) (hb : b ≤ d.size) (hsz : d0.size < 4611686018427387904) :
    Calls Tryd.prog 50 #[.slice (some ⟨blk, off, none⟩) d.size cap, .int .i64 a, .int .i64 b, .func (.func g) #[] cb] w fun e w' => e = .returned (.tuple #[]) ∧ SW enc w0 blk off (Sort.insertionSort (ltOf cf) d a b) w' := by
  have hcl0 := R.hO.cells
  simp only [Value.cells] at hcl0
  have hst := R.hO.store Tryd.prog
  have mixed : Tryd.prog.follows Departure.mixedOrders = true := by kernel_rfl
  have HC : Aside _ := hcmp
  have S0 : Aside (SW enc w0 blk off d w) := S
  clear S hcmp
  go_enter Tryd.func50, Tryd.ntmps50
  go_wp2
  go_loopg [8] (b - a) (fun g1 vi wr => ∃ (i : Nat) (dk : Array α), vi = .int .i64 i ∧ a < i ∧ i ≤ b + 1 ∧ b + 1 - i ≤ g1 + 1 ∧ dk.size = d.size ∧ Aside (SW enc w0 blk off dk wr) ∧ Hid (insOuter (ltOf cf) a b i dk = insOuter (ltOf cf) a b (a + 1) d))
  case atStart => exact ⟨a + 1, d, by first | rfl | go_num, by omega, by omega, by omega, rfl, S0, hidS rfl⟩
  case round =>
    clear S0
    obtain ⟨i, dk, rfl, hai, hib, hg1, hsk, S1, HO⟩ := hrel
    by_cases hlt : i < b
    · have hltz : (i : Int) < (b : Int) := by omega
      go_wp2
      go_loopg [9] i (fun g2 vj wr2 => ∃ (j : Nat) (dj : Array α), vj = .int .i64 j ∧ a ≤ j ∧ j ≤ i ∧ j ≤ g2 ∧ dj.size = d.size ∧ Aside (SW enc w0 blk off dj wr2) ∧ Hid (insInner (ltOf cf) a j dj = insInner (ltOf cf) a i dk))
      case atStart => exact ⟨i, dk, rfl, by omega, Nat.le_refl _, Nat.le_refl _, hsk, S1, hidS rfl⟩
      case round =>
        clear S1
        obtain ⟨j, dj, rfl, haj, hji, hg2, hsj, SJ, HI⟩ := hrel
        have out : (j ≤ a ∨ (ltOf cf) dj[j]! dj[j - 1]! = false) → Hid (insOuter (ltOf cf) a b (i + 1) dj = insOuter (ltOf cf) a b (a + 1) d) := fun hs => by
          show _ = _
          rw [← HO.out, insOuter_go _ _ _ _ _ hlt, ← HI.out, insInner_stop _ _ _ _ hs]
        have OUT : Aside _ := out
        clear out
        by_cases hja : a < j
        · have hjaz : (a : Int) < (j : Int) := by omega
          obtain ⟨jp, hjp⟩ : ∃ q, q + 1 = j := ⟨j - 1, by omega⟩
          have zjp : (j : Int) = (jp : Int) + 1 := by omega
          have hjad : decide ((jp : Int) + 1 > (a : Int)) = true := decide_eq_true (by omega)
          have hjaz' : (a : Int) < (jp : Int) + 1 := by omega
          cases hlv : (ltOf cf) dj[j]! dj[j - 1]! with
          | true =>
            obtain ⟨iN112, hiN112⟩ : ∃ q_, q_ = j := ⟨_, rfl⟩
            obtain ⟨jN112, hjN112⟩ : ∃ q_, q_ = j - 1 := ⟨_, rfl⟩
            have ea112 : ((jp : Int) + 1).toNat = iN112 := by omega
            have pa112 : (0 : Int) ≤ (jp : Int) + 1 := by omega
            have ba112 : (jp : Int) + 1 < (d.size : Int) := by omega
            have ra112 : IntKind.i64.wrap ((jp : Int) + 1) = (jp : Int) + 1 := by rw [IntKind.wrap_i64]; omega
            have ec112 : ((jp : Int)).toNat = jN112 := by omega
            have pc112 : (0 : Int) ≤ (jp : Int) := by omega
            have bc112 : (jp : Int) < (d.size : Int) := by omega
            have rc112 : IntKind.i64.wrap ((jp : Int)) = (jp : Int) := by rw [IntKind.wrap_i64]; omega
            obtain ⟨x112, hx112⟩ : ∃ x, x = dj[j]! := ⟨_, rfl⟩
            obtain ⟨y112, hy112⟩ : ∃ x, x = dj[j - 1]! := ⟨_, rfl⟩
            have l112a := SJ.out.cl R (by omega) (j) (by omega)
            have l112b := SJ.out.cl R (by omega) (j - 1) (by omega)
            rw [← hx112, ← hiN112] at l112a
            rw [← hy112, ← hjN112] at l112b
            have hc112 := SJ.out.cmp HC.out (by omega) x112 y112
            have hv112 : cf x112 y112 < 0 := by rw [hx112, hy112]; exact of_decide_eq_true hlv
            have hd112 : decide (cf x112 y112 < 0) = true := decide_eq_true hv112
            clear hx112 hy112 hiN112 hjN112
            go_wp2_with fail
            go_quiet_grown (first | (go_at_fn g; refine Calls.grown_of (hc112 _ _)))
            have S2 : Aside (SW enc w0 blk off dj (grow (wr.drewN nq) osq)) := SJ.out.grown nq osq
            clear l112a l112b hc112 SJ
            generalize grow (wr.drewN nq) osq = w2 at S2 ⊢
            clear nq osq
            clear ea112 ec112
            go_wp2_with fail
            obtain ⟨iN113, hiN113⟩ : ∃ q_, q_ = j := ⟨_, rfl⟩
            obtain ⟨jN113, hjN113⟩ : ∃ q_, q_ = j - 1 := ⟨_, rfl⟩
            have ea113 : ((jp : Int) + 1).toNat = iN113 := by omega
            have pa113 : (0 : Int) ≤ (jp : Int) + 1 := by omega
            have ba113 : (jp : Int) + 1 < (d.size : Int) := by omega
            have ra113 : IntKind.i64.wrap ((jp : Int) + 1) = (jp : Int) + 1 := by rw [IntKind.wrap_i64]; omega
            have ec113 : ((jp : Int)).toNat = jN113 := by omega
            have pc113 : (0 : Int) ≤ (jp : Int) := by omega
            have bc113 : (jp : Int) < (d.size : Int) := by omega
            have rc113 : IntKind.i64.wrap ((jp : Int)) = (jp : Int) := by rw [IntKind.wrap_i64]; omega
            obtain ⟨x113, hx113⟩ : ∃ x, x = dj[j]! := ⟨_, rfl⟩
            obtain ⟨y113, hy113⟩ : ∃ x, x = dj[j - 1]! := ⟨_, rfl⟩
            have S3 : Aside (SW enc w0 blk off (swp dj (j) (j - 1)) ((w2.setCell ⟨blk, off + iN113, none⟩ (enc y113)).setCell ⟨blk, off + jN113, none⟩ (enc x113)).drew) := by rw [hiN113, hjN113, hx113, hy113]; exact S2.out.swapped R (j) (j - 1) (by omega) (by omega)
            have c113a := S2.out.c1 R (by omega) (j) (by omega)
            have c113b := S2.out.c1 R (by omega) (j - 1) (by omega)
            have f113a := S2.out.f1 R (by omega) (j) (by omega)
            have f113b := S2.out.f1 R (by omega) (j - 1) (by omega)
            obtain ⟨u113, c113c⟩ := S2.out.c2 R (by omega) (j) (j - 1) (by omega) (by omega) (enc y113)
            rw [← hjN113, ← hiN113] at c113c
            rw [← hx113, ← hiN113] at c113a
            rw [← hy113, ← hjN113] at c113b
            rw [← hiN113] at f113a
            rw [← hjN113] at f113b
            clear S2 hx113 hy113 hiN113 hjN113
            go_big_region_o
            clear c113a c113b c113c f113a f113b
            generalize ((w2.setCell ⟨blk, off + iN113, none⟩ (enc y113)).setCell ⟨blk, off + jN113, none⟩ (enc x113)).drew = w3 at S3 ⊢
            clear ea113 ec113
            go_wp2
            go_roundg (j - 1)
            case measure => omega
            case rel => exact ⟨j - 1, swp dj j (j - 1), by first | rfl | go_num | (congr 1; omega), by omega, by omega, Nat.le_refl _, by rw [size_swp]; exact hsj, S3, hidS (by rw [← HI.out, insInner_go (ltOf cf) a j dj hja hlv])⟩
          | false =>
            obtain ⟨iN114, hiN114⟩ : ∃ q_, q_ = j := ⟨_, rfl⟩
            obtain ⟨jN114, hjN114⟩ : ∃ q_, q_ = j - 1 := ⟨_, rfl⟩
            have ea114 : ((jp : Int) + 1).toNat = iN114 := by omega
            have pa114 : (0 : Int) ≤ (jp : Int) + 1 := by omega
            have ba114 : (jp : Int) + 1 < (d.size : Int) := by omega
            have ra114 : IntKind.i64.wrap ((jp : Int) + 1) = (jp : Int) + 1 := by rw [IntKind.wrap_i64]; omega
            have ec114 : ((jp : Int)).toNat = jN114 := by omega
            have pc114 : (0 : Int) ≤ (jp : Int) := by omega
            have bc114 : (jp : Int) < (d.size : Int) := by omega
            have rc114 : IntKind.i64.wrap ((jp : Int)) = (jp : Int) := by rw [IntKind.wrap_i64]; omega
            obtain ⟨x114, hx114⟩ : ∃ x, x = dj[j]! := ⟨_, rfl⟩
            obtain ⟨y114, hy114⟩ : ∃ x, x = dj[j - 1]! := ⟨_, rfl⟩
            have l114a := SJ.out.cl R (by omega) (j) (by omega)
            have l114b := SJ.out.cl R (by omega) (j - 1) (by omega)
            rw [← hx114, ← hiN114] at l114a
            rw [← hy114, ← hjN114] at l114b
            have hc114 := SJ.out.cmp HC.out (by omega) x114 y114
            have hv114 : ¬ cf x114 y114 < 0 := by rw [hx114, hy114]; exact of_decide_eq_false hlv
            have hd114 : decide (cf x114 y114 < 0) = false := decide_eq_false hv114
            clear hx114 hy114 hiN114 hjN114
            go_wp2_with fail
            go_quiet_grown (first | (go_at_fn g; refine Calls.grown_of (hc114 _ _)))
            have S2 : Aside (SW enc w0 blk off dj (grow (wr.drewN nq) osq)) := SJ.out.grown nq osq
            clear l114a l114b hc114 SJ
            generalize grow (wr.drewN nq) osq = w2 at S2 ⊢
            clear nq osq
            clear ea114 ec114
            go_wp2
            go_roundg (b - (i + 1))
            case measure => omega
            case rel => exact ⟨i + 1, dj, by first | rfl | go_num, by omega, by omega, by omega, hsj, S2, OUT.out (Or.inr hlv)⟩
        · have hjaz : decide ((j : Int) > (a : Int)) = false := decide_eq_false (by omega)
          have hjaz' : ¬ (a : Int) < (j : Int) := by omega
          go_wp2_with fail
          go_big_region_o
          have S2 : Aside (SW enc w0 blk off dj wr.drew) := SJ.out.drew
          clear SJ
          generalize wr.drew = w2 at S2 ⊢
          go_wp2
          go_roundg (b - (i + 1))
          case measure => omega
          case rel => exact ⟨i + 1, dj, by first | rfl | go_num, by omega, by omega, by omega, hsj, S2, OUT.out (Or.inl (by omega))⟩
    · have hltz : ¬ (i : Int) < (b : Int) := by omega
      go_wp2
      go_end0
      exact ⟨rfl, by unfold Sort.insertionSort; rw [← HO.out, insOuter_stop _ _ _ _ _ hlt]; exact S1.out⟩
end

end Go.Proofs.YtdkhajgfifaibaaDoor.PA
