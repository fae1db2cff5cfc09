-- Printed for this claim by wip/tools/xprint.py over the kit's print; the contracts marked BY HAND are this session's own.
import Derived.Test.YtifekgemngfidaaDoorPAx0
namespace Go.Proofs.YtifekgemngfidaaDoor.PA
open Go.RowKit Go.Proofs.YtifekgemngfidaaDoorW.PrintWords Go.Proofs.YtifekgemngfidaaDoorW.PrintLast Go.Proofs.YtifekgemngfidaaDoorW.PrintMore
attribute [local go_sem] max2_int min2_int max_two min_two max_three min_three max_four min_four   -- for this text's walks alone
set_option linter.unusedVariables false
set_option linter.unusedSimpArgs false

/-! ### haulierref04_word: function 39 -/
mutual
def haulierref04_word.j0 : Nat → List Int → Bool → Option (Int × Bool)
  | 0, _, _ => none
  | k + 1, x0, x4 => if x4 = true then (if 1 ≤ (x0.length : Int) then (haulierref04_word.j1 k (x0.drop 1) x4) else (none)) else (haulierref04_word.j1 k x0 x4)
def haulierref04_word.j1 : Nat → List Int → Bool → Option (Int × Bool)
  | 0, _, _ => none
  | k + 1, x0, x4 => if (x0.length : Int) < 1 then (haulierref04_word.j2 k x0 x4 true) else (haulierref04_word.j2 k x0 x4 (decide ((x0.length : Int) > 12)))
def haulierref04_word.j2 : Nat → List Int → Bool → Bool → Option (Int × Bool)
  | 0, _, _, _ => none
  | k + 1, x0, x4, x26 => if x26 = true then (some (0, false)) else (haulierref04_word.l0 k x0 x4 0 0)
def haulierref04_word.l0 : Nat → List Int → Bool → Int → Int → Option (Int × Bool)
  | 0, _, _, _, _ => none
  | k + 1, x0, x4, x5, x6 => if x6 < (x0.length : Int) then (if 0 ≤ x6 then (if (rd x0 x6) < 48 then (some (0, false)) else (if (rd x0 x6) > 57 then (some (0, false)) else (haulierref04_word.l0 k x0 x4 (wrap64 ((wrap64 (10 * x5)) + (((rd x0 x6) - 48) % 256))) (wrap64 (x6 + 1))))) else (none)) else (if x4 = true then (some (wrap64 (-x5), true)) else (some (x5, true)))
end
def haulierref04_word.f (k : Nat) (l0 : List Int) : Option (Int × Bool) := if (l0.length : Int) > 0 then (if 0 < (l0.length : Int) then (haulierref04_word.j0 k l0 ((rd l0 0) == 45)) else (none)) else (haulierref04_word.j0 k l0 false)
theorem haulierref04_word.mono_l : ∀ k, (∀ y0 y1, LeO (haulierref04_word.j0 k y0 y1) (haulierref04_word.j0 (k + 1) y0 y1)) ∧ (∀ y0 y1, LeO (haulierref04_word.j1 k y0 y1) (haulierref04_word.j1 (k + 1) y0 y1)) ∧ (∀ y0 y1 y2, LeO (haulierref04_word.j2 k y0 y1 y2) (haulierref04_word.j2 (k + 1) y0 y1 y2)) ∧ (∀ y0 y1 y2 y3, LeO (haulierref04_word.l0 k y0 y1 y2 y3) (haulierref04_word.l0 (k + 1) y0 y1 y2 y3))
  | 0 => ⟨fun _ _ r h => by simp [haulierref04_word.j0] at h, fun _ _ r h => by simp [haulierref04_word.j1] at h, fun _ _ _ r h => by simp [haulierref04_word.j2] at h, fun _ _ _ _ r h => by simp [haulierref04_word.l0] at h⟩
  | k + 1 => by
    obtain ⟨ih0, ih1, ih2, ih3⟩ := haulierref04_word.mono_l k
    refine ⟨?_, ?_, ?_, ?_⟩
    · intro y0 y1
      unfold haulierref04_word.j0
      repeat' first
      | (with_reducible exact ih0 _ _)
      | (with_reducible exact ih1 _ _)
      | (with_reducible exact ih2 _ _ _)
      | (with_reducible exact ih3 _ _ _ _)
      | (with_reducible exact LeO.refl _)
      | (with_reducible exact LeO.none _)
      | (with_reducible refine LeO.ite ?_ ?_)
      | (with_reducible refine LeO.bind ?_ (fun _ => ?_))
      | exact ih0 _ _
      | exact ih1 _ _
      | exact ih2 _ _ _
      | exact ih3 _ _ _ _
      | exact LeO.none _
      | refine LeO.ite ?_ ?_
      | refine LeO.bind ?_ (fun _ => ?_)
    · intro y0 y1
      unfold haulierref04_word.j1
      repeat' first
      | (with_reducible exact ih0 _ _)
      | (with_reducible exact ih1 _ _)
      | (with_reducible exact ih2 _ _ _)
      | (with_reducible exact ih3 _ _ _ _)
      | (with_reducible exact LeO.refl _)
      | (with_reducible exact LeO.none _)
      | (with_reducible refine LeO.ite ?_ ?_)
      | (with_reducible refine LeO.bind ?_ (fun _ => ?_))
      | exact ih0 _ _
      | exact ih1 _ _
      | exact ih2 _ _ _
      | exact ih3 _ _ _ _
      | exact LeO.none _
      | refine LeO.ite ?_ ?_
      | refine LeO.bind ?_ (fun _ => ?_)
    · intro y0 y1 y2
      unfold haulierref04_word.j2
      repeat' first
      | (with_reducible exact ih0 _ _)
      | (with_reducible exact ih1 _ _)
      | (with_reducible exact ih2 _ _ _)
      | (with_reducible exact ih3 _ _ _ _)
      | (with_reducible exact LeO.refl _)
      | (with_reducible exact LeO.none _)
      | (with_reducible refine LeO.ite ?_ ?_)
      | (with_reducible refine LeO.bind ?_ (fun _ => ?_))
      | exact ih0 _ _
      | exact ih1 _ _
      | exact ih2 _ _ _
      | exact ih3 _ _ _ _
      | exact LeO.none _
      | refine LeO.ite ?_ ?_
      | refine LeO.bind ?_ (fun _ => ?_)
    · intro y0 y1 y2 y3
      unfold haulierref04_word.l0
      repeat' first
      | (with_reducible exact ih0 _ _)
      | (with_reducible exact ih1 _ _)
      | (with_reducible exact ih2 _ _ _)
      | (with_reducible exact ih3 _ _ _ _)
      | (with_reducible exact LeO.refl _)
      | (with_reducible exact LeO.none _)
      | (with_reducible refine LeO.ite ?_ ?_)
      | (with_reducible refine LeO.bind ?_ (fun _ => ?_))
      | exact ih0 _ _
      | exact ih1 _ _
      | exact ih2 _ _ _
      | exact ih3 _ _ _ _
      | exact LeO.none _
      | refine LeO.ite ?_ ?_
      | refine LeO.bind ?_ (fun _ => ?_)
theorem haulierref04_word.mono : ∀ a0 k, LeO (haulierref04_word.f k a0) (haulierref04_word.f (k + 1) a0) := by
  intro a0 k
  obtain ⟨ih0, ih1, ih2, ih3⟩ := haulierref04_word.mono_l k
  unfold haulierref04_word.f
  repeat' first
      | (with_reducible exact ih0 _ _)
      | (with_reducible exact ih1 _ _)
      | (with_reducible exact ih2 _ _ _)
      | (with_reducible exact ih3 _ _ _ _)
      | (with_reducible exact LeO.refl _)
      | (with_reducible exact LeO.none _)
      | (with_reducible refine LeO.ite ?_ ?_)
      | (with_reducible refine LeO.bind ?_ (fun _ => ?_))
      | exact ih0 _ _
      | exact ih1 _ _
      | exact ih2 _ _ _
      | exact ih3 _ _ _ _
      | exact LeO.none _
      | refine LeO.ite ?_ ?_
      | refine LeO.bind ?_ (fun _ => ?_)
set_option maxHeartbeats 8000000 in
set_option maxRecDepth 100000 in
theorem haulierref04_word.calls (k : Nat) (P0_ : Nat → Prop) (A0 : Option Addr) (c0 : Nat) (l0 : List Int) (r1 : Int) (r2 : Bool) (w : World) (hs0 : Kd.V (Kd.int .u8) 5 w w.heap.size (fun k_ => P0_ k_) (.slice A0 l0.length c0) l0) (h : haulierref04_word.f k l0 = some (r1, r2)) :
  Calls Tryd.prog 39 #[.slice A0 l0.length c0] w fun e w' => e = .returned (.tuple #[.int .i64 r1, .bool r2]) ∧ Below w.heap.size w w' := by
 have HO0 := zqi (show Kd.V (Kd.int .u8) 5 w w.heap.size (fun k_ => (P0_ k_ ∨ w.heap.size ≤ k_)) (.slice A0 l0.length c0) l0 from Kd.V_mono hs0 (fun k_ hk => .inl hk))
 have HB := zqi (Below.refl w.heap.size w)
 have H : (if (l0.length : Int) > 0 then (if 0 < (l0.length : Int) then (haulierref04_word.j0 k l0 ((rd l0 0) == 45)) else (none)) else (haulierref04_word.j0 k l0 false)) = some (r1, r2) := h
 clear h
 have HC2 := zqi H
 clear H
 go_enter Tryd.func39, Tryd.ntmps39
 go_upto_region 1 with (fail)
 go_cut [4] (fun v4 wc => ∃ (kq : Nat) (x4_1 : Bool), v4 = .bool x4_1 ∧ Aside0 (haulierref04_word.j0 kq l0 x4_1 = some (r1, r2)) ∧ Aside0 (kq ≤ k) ∧ Aside0 (Kd.V (Kd.int .u8) 5 wc w.heap.size (fun k_ => (P0_ k_ ∨ w.heap.size ≤ k_)) (.slice A0 l0.length c0) l0) ∧ Aside0 (Below w.heap.size w wc))
 case first =>
  have H := HC2.out
  clear HC2
  by_cases c3 : (l0.length : Int) > 0
  ·
   rw [if_pos c3] at H
   have c3b0 : decide (0 < (l0.length : Int)) = true := decide_eq_true c3
   have c3b1 : decide (0 < l0.length) = true := decide_eq_true (by omega)
   clear c3
   (first | rw [c3b0] | (simp only [i64_w, i32_w]; rw [c3b0]) | skip)
   by_cases c4 : 0 < (l0.length : Int)
   ·
    rw [if_pos c4] at H
    have c4b0 : decide (0 < (l0.length : Int)) = true := decide_eq_true c4
    have c4b1 : decide (0 < l0.length) = true := decide_eq_true (by omega)
    clear c4
    have H' := zqi H
    clear H
    have p231 : 0 ≤ (0 : Int) := (by omega)
    have q231 : 0 < (l0.length : Int) := of_decide_eq_true (by first | (with_reducible assumption) | assumption)
    obtain ⟨ad231, e231, hx231_0⟩ := Kd.at_int (Kd.V_reads' HO0.out).2.2 0 p231 q231
    cases e231
    have qi231 : (0 < l0.length) = True := eq_true (by omega)
    (try rw [show ((0 : Int)).toNat = 0 from rfl] at hx231_0)
    (try rw [Addr.add_zero'] at hx231_0)
    replace p231 := eq_true p231
    replace q231 := eq_true q231
    go_wp2
    go_meet
    case rel => exact ⟨_, (((rd l0 0) == 45)), (by first | rfl | (simp; done) | (simp [*]; done)), H', ⟨by first | omega | exact Nat.le_refl _⟩, ⟨by (with_reducible repeat (first | apply Kd.V_alloc | apply Kd.V_drewN | apply Kd.V_drew)); exact HO0.out⟩, ⟨by repeat (first | (with_reducible first | exact HB.out | apply zqg | apply zqf | apply zqh) | exact HB.out)⟩⟩
   ·
    rw [if_neg c4] at H
    exact absurd H (by simp)
  ·
   rw [if_neg c3] at H
   have c3b0 : decide (0 < (l0.length : Int)) = false := decide_eq_false c3
   have c3b1 : decide (0 < l0.length) = false := decide_eq_false (by omega)
   clear c3
   (first | rw [c3b0] | (simp only [i64_w, i32_w]; rw [c3b0]) | skip)
   have H' := zqi H
   clear H
   go_wp2
   go_meet
   case rel => exact ⟨_, (false), (by first | rfl | (simp; done) | (simp [*]; done)), H', ⟨by first | omega | exact Nat.le_refl _⟩, ⟨by (with_reducible repeat (first | apply Kd.V_alloc | apply Kd.V_drewN | apply Kd.V_drew)); exact HO0.out⟩, ⟨by repeat (first | (with_reducible first | exact HB.out | apply zqg | apply zqf | apply zqh) | exact HB.out)⟩⟩
 case rest =>
  clear HC2
  try clear p2
  try clear q2
  try clear hx2
  try clear qi2
  try clear c3
  try clear c3b0
  try clear c3b1
  try clear c4
  try clear c4b0
  try clear c4b1
  try clear hx231_0
  try clear p231
  try clear q231
  obtain ⟨kq, x4_1, rfl, HA, HJ1, HO_0, HB⟩ := hcut
  cases kq with
  | zero => exact absurd HA.out (by simp [haulierref04_word.j0])
  | succ kj1 =>
   have H := HA.out
   clear HA
   simp only [haulierref04_word.j0] at H
   have HC5 := zqi H
   clear H
   go_upto_if 16 with (fail)
   go_cut [0] (fun v0 wc => ∃ (kq : Nat) (x0_4 : List Int), Aside0 (haulierref04_word.j1 kq x0_4 x4_1 = some (r1, r2)) ∧ Aside0 (kq ≤ kj1) ∧ Aside0 (Kd.V (Kd.int .u8) 5 wc w.heap.size (fun k_ => (P0_ k_ ∨ w.heap.size ≤ k_)) v0 x0_4) ∧ Aside0 (Below w.heap.size w wc))
   case first =>
    have H := HC5.out
    clear HC5
    by_cases c6 : x4_1 = true
    ·
     subst c6
     have H1 : (if 1 ≤ (l0.length : Int) then (haulierref04_word.j1 kj1 (l0.drop 1) true) else (none)) = some (r1, r2) := by rw [if_pos rfl] at H; exact H
     clear H
     have H := H1
     clear H1
     by_cases c7 : 1 ≤ (l0.length : Int)
     ·
      rw [if_pos c7] at H
      have c7b0 := eq_true c7
      have c7b1 : decide (1 ≤ (l0.length : Int)) = true := decide_eq_true c7
      clear c7
      obtain ⟨y232, hy232⟩ : ∃ y_ : List Int, y_ = (l0.drop 1) := ⟨_, rfl⟩
      replace H : (haulierref04_word.j1 kj1 y232 true) = some (r1, r2) := by first | (rw [hy232]; with_reducible exact H) | (have H2_ := (Option.bind_some _ _).symm.trans H; rw [hy232]; with_reducible exact H2_) | (have H2_ := (Option.bind_some _ _).symm.trans H; with_reducible exact H2_) | with_reducible exact H | (rw [hy232]; exact H) | exact H
      have Ny232 := zqi hy232
      clear hy232
      have H' := zqi H
      clear H
      have q8 : (1 : Int) ≤ ((l0.length : Int) : Int) := of_decide_eq_true (by first | (with_reducible assumption) | assumption)
      obtain ⟨i08, hi08, _, hsz8, _⟩ := info_parts info5
      have hroom8 : l0.length ≤ c0 := (Kd.V_reads' HO_0.out).2.1
      have hC8 : Kd.F (Kd.int .u8) _ _ A0 l0.length l0 := (Kd.V_at (base := w.heap.size) HO_0.out).2.2
      have hcut8 := cut_from (P := Tryd.prog) 22 5 .i64 Tryd.underlying22 hi08 1 hsz8 A0 l0.length c0 1 (by omega) q8
      have hr8 := Kd.F_cut (m := (1 : Int).toNat) (c := c0) hC8 (by omega) hroom8
      obtain ⟨A8, hA8⟩ : ∃ A1, A1 = (if c0 = (1 : Int).toNat then A0 else (A0 : Option Addr).map (·.add ((1 : Int).toNat * 1))) := ⟨_, rfl⟩
      obtain ⟨c8, hc8⟩ : ∃ c1, c1 = c0 - (1 : Int).toNat := ⟨_, rfl⟩
      have hy8 : y232.length = l0.length - (1 : Int).toNat := (by rw [Ny232.out, List.length_drop] <;> omega)
      rw [show (l0).drop (1 : Int).toNat = y232 from Ny232.out.symm] at hr8
      replace hr8 : Kd.F (Kd.int .u8) _ _ A8 y232.length y232 := (by rw [hA8]; exact hr8)
      rw [← hy8, ← hA8, ← hc8] at hcut8
      have HO236 := zqi (show Kd.V (Kd.int .u8) 5 _ w.heap.size _ (.slice A8 y232.length c8) y232 from Kd.V_mk (by rw [hy8, hc8]; exact Nat.sub_le_sub_right hroom8 _) hr8)
      have HC236 := zqi (show y232.length ≤ c8 from by rw [hy8, hc8]; exact Nat.sub_le_sub_right hroom8 _)
      clear hr8 hC8 hroom8 hi08 hsz8 hc8
      have KY8 := zqi hy8
      have KA8 := zqi hA8
      clear hy8 hA8
      replace q8 := eq_true q8
      go_wp2
      go_meet
      case rel => exact ⟨_, (y232), H', ⟨by have := HJ1.out; first | omega | exact Nat.le_refl _⟩, ⟨by (with_reducible repeat (first | apply Kd.V_alloc | apply Kd.V_drewN | apply Kd.V_drew)); exact HO236.out⟩, ⟨by repeat (first | (with_reducible first | exact HB.out | apply zqg | apply zqf | apply zqh) | exact HB.out)⟩⟩
     ·
      rw [if_neg c7] at H
      exact absurd H (by simp)
    ·
     replace c6 := Bool.eq_false_iff.mpr c6
     subst c6
     have H1 : (haulierref04_word.j1 kj1 l0 false) = some (r1, r2) := by rw [if_neg (show ¬ (false = true) by decide)] at H; exact H
     clear H
     have H := H1
     clear H1
     have H' := zqi H
     clear H
     go_wp2
     go_meet
     case rel => exact ⟨_, (l0), H', ⟨by have := HJ1.out; first | omega | exact Nat.le_refl _⟩, ⟨by (with_reducible repeat (first | apply Kd.V_alloc | apply Kd.V_drewN | apply Kd.V_drew)); exact HO_0.out⟩, ⟨by repeat (first | (with_reducible first | exact HB.out | apply zqg | apply zqf | apply zqh) | exact HB.out)⟩⟩
   case rest =>
    clear HC5
    try clear c1
    try clear p2
    try clear q2
    try clear hx2
    try clear qi2
    try clear c3
    try clear c3b0
    try clear c3b1
    try clear c4
    try clear c4b0
    try clear c4b1
    try clear c6
    try clear c7
    try clear c7b0
    try clear c7b1
    try clear c8
    try clear q8
    try clear hx231_0
    try clear p2
    try clear p231
    try clear q2
    try clear q231
    try clear q8
    obtain ⟨kq, x0_4, HA, HJ4, HO_0, HB⟩ := hcut
    cases kq with
    | zero => exact absurd HA.out (by simp [haulierref04_word.j1])
    | succ kj4 =>
     have H := HA.out
     clear HA
     simp only [haulierref04_word.j1] at H
     have HC9 := zqi H
     clear H
     go_upto_region 4 with (fail)
     go_cut [26] (fun v26 wc => ∃ (kq : Nat) (x26_8 : Bool), v26 = .bool x26_8 ∧ Aside0 (haulierref04_word.j2 kq x0_4 x4_1 x26_8 = some (r1, r2)) ∧ Aside0 (kq ≤ kj4) ∧ Aside0 (Kd.V (Kd.int .u8) 5 wc w.heap.size (fun k_ => (P0_ k_ ∨ w.heap.size ≤ k_)) u0 x0_4) ∧ Aside0 (Below w.heap.size w wc))
     case first =>
      have H := HC9.out
      clear HC9
      by_cases c10 : (x0_4.length : Int) < 1
      ·
       rw [if_pos c10] at H
       have c10b0 : decide ((x0_4.length : Int) < 1) = true := decide_eq_true c10
       have c10b1 : decide (x0_4.length < 1) = true := decide_eq_true (by omega)
       clear c10
       (first | rw [c10b0] | (simp only [i64_w, i32_w]; rw [c10b0]) | skip)
       have H' := zqi H
       clear H
       obtain ⟨Ao11, co11, eo11⟩ := Kd.V_slice HO_0.out
       subst eo11
       go_wp2
       go_meet
       case rel => exact ⟨_, (true), (by first | rfl | (simp; done) | (simp [*]; done)), H', ⟨by have := HJ1.out; have := HJ4.out; first | omega | exact Nat.le_refl _⟩, ⟨by (with_reducible repeat (first | apply Kd.V_alloc | apply Kd.V_drewN | apply Kd.V_drew)); exact HO_0.out⟩, ⟨by repeat (first | (with_reducible first | exact HB.out | apply zqg | apply zqf | apply zqh) | exact HB.out)⟩⟩
      ·
       rw [if_neg c10] at H
       have c10b0 : decide ((x0_4.length : Int) < 1) = false := decide_eq_false c10
       have c10b1 : decide (x0_4.length < 1) = false := decide_eq_false (by omega)
       clear c10
       (first | rw [c10b0] | (simp only [i64_w, i32_w]; rw [c10b0]) | skip)
       have H' := zqi H
       clear H
       obtain ⟨Ao12, co12, eo12⟩ := Kd.V_slice HO_0.out
       subst eo12
       go_wp2
       go_meet
       case rel => exact ⟨_, (decide ((x0_4.length : Int) > 12)), (by first | rfl | (simp; done) | (simp [*]; done)), H', ⟨by have := HJ1.out; have := HJ4.out; first | omega | exact Nat.le_refl _⟩, ⟨by (with_reducible repeat (first | apply Kd.V_alloc | apply Kd.V_drewN | apply Kd.V_drew)); exact HO_0.out⟩, ⟨by repeat (first | (with_reducible first | exact HB.out | apply zqg | apply zqf | apply zqh) | exact HB.out)⟩⟩
     case rest =>
      clear HC9
      try clear c1
      try clear p2
      try clear q2
      try clear hx2
      try clear qi2
      try clear c3
      try clear c3b0
      try clear c3b1
      try clear c4
      try clear c4b0
      try clear c4b1
      try clear c6
      try clear c7
      try clear c7b0
      try clear c7b1
      try clear c8
      try clear q8
      try clear c10
      try clear c10b0
      try clear c10b1
      try clear hx231_0
      try clear p2
      try clear p231
      try clear q2
      try clear q231
      try clear q8
      obtain ⟨kq, x26_8, rfl, HA, HJ8, HO_0, HB⟩ := hcut
      cases kq with
      | zero => exact absurd HA.out (by simp [haulierref04_word.j2])
      | succ kj8 =>
       have H := HA.out
       clear HA
       simp only [haulierref04_word.j2] at H
       by_cases c13 : x26_8 = true
       ·
        subst c13
        have H1 : (some (0, false)) = some (r1, r2) := by rw [if_pos rfl] at H; exact H
        clear H
        have H := H1
        clear H1
        simp only [Option.some.injEq, Prod.mk.injEq] at H
        obtain ⟨rfl, rfl⟩ := H
        go_wp2
        go_ret2
        exact ⟨by first | rfl | (simp [errW_none, errW_some] <;> rfl) | (simp [*, errW_none, errW_some] <;> rfl), by repeat (first | (with_reducible first | exact HB.out | apply zqg | apply zqf | apply zqh) | exact HB.out)⟩
       ·
        replace c13 := Bool.eq_false_iff.mpr c13
        subst c13
        have H1 : (haulierref04_word.l0 kj8 x0_4 x4_1 0 0) = some (r1, r2) := by rw [if_neg (show ¬ (false = true) by decide)] at H; exact H
        clear H
        have H := H1
        clear H1
        have H' := zqi H
        clear H
        go_wp2
        go_loopg [5, 6] kj8 (fun kq v5 v6 w' => ∃ (x5_4 : Int) (x6_4 : Int), v5 = .int .i64 x5_4 ∧ v6 = .int .i64 x6_4 ∧ Aside0 (haulierref04_word.l0 kq x0_4 x4_1 x5_4 x6_4 = some (r1, r2)) ∧ Aside0 (kq ≤ kj8) ∧ Aside0 (Kd.V (Kd.int .u8) 5 w' w.heap.size (fun k_ => (P0_ k_ ∨ w.heap.size ≤ k_)) u0 x0_4) ∧ Aside0 (Below w.heap.size w w'))
        case atStart => exact ⟨(0), (0), (by first | rfl | (simp; done) | (simp [*]; done)), (by first | rfl | (simp; done) | (simp [*]; done)), H', ⟨Nat.le_refl _⟩, ⟨by (with_reducible repeat (first | apply Kd.V_alloc | apply Kd.V_drewN | apply Kd.V_drew)); exact HO_0.out⟩, ⟨by repeat (first | (with_reducible first | exact HB.out | apply zqg | apply zqf | apply zqh) | exact HB.out)⟩⟩
        case round =>
         clear H'
         try clear c1
         try clear p2
         try clear q2
         try clear hx2
         try clear qi2
         try clear c3
         try clear c3b0
         try clear c3b1
         try clear c4
         try clear c4b0
         try clear c4b1
         try clear c6
         try clear c7
         try clear c7b0
         try clear c7b1
         try clear c8
         try clear q8
         try clear c10
         try clear c10b0
         try clear c10b1
         try clear c13
         try clear hx231_0
         try clear p2
         try clear p231
         try clear q2
         try clear q231
         try clear q8
         obtain ⟨x5_4, x6_4, rfl, rfl, HA, HK4, HO_0, HB⟩ := hrel
         cases gk with
         | zero => exact absurd HA.out (by simp [haulierref04_word.l0])
         | succ k4 =>
          have H := HA.out
          clear HA
          simp only [haulierref04_word.l0] at H
          by_cases c14 : x6_4 < (x0_4.length : Int)
          ·
           rw [if_pos c14] at H
           have c14b0 : decide (x6_4 < (x0_4.length : Int)) = true := decide_eq_true c14
           clear c14
           by_cases c15 : 0 ≤ x6_4
           ·
            rw [if_pos c15] at H
            have c15b0 : decide (0 ≤ x6_4) = true := decide_eq_true c15
            clear c15
            by_cases c16 : (rd x0_4 x6_4) < 48
            ·
             rw [if_pos c16] at H
             have c16b0 : decide ((rd x0_4 x6_4) < 48) = true := decide_eq_true c16
             clear c16
             simp only [Option.some.injEq, Prod.mk.injEq] at H
             obtain ⟨rfl, rfl⟩ := H
             obtain ⟨Ao17, co17, eo17⟩ := Kd.V_slice HO_0.out
             subst eo17
             have p237 : 0 ≤ (x6_4 : Int) := of_decide_eq_true (by first | (with_reducible assumption) | assumption)
             have q237 : x6_4 < (x0_4.length : Int) := of_decide_eq_true (by first | (with_reducible assumption) | assumption)
             obtain ⟨ad237, e237, hx237_0⟩ := Kd.at_int (Kd.V_reads' HO_0.out).2.2 x6_4 p237 q237
             cases e237
             replace p237 := eq_true p237
             replace q237 := eq_true q237
             go_wp2
             go_ret2
             exact ⟨by first | rfl | (simp [errW_none, errW_some] <;> rfl) | (simp [*, errW_none, errW_some] <;> rfl), by repeat (first | (with_reducible first | exact HB.out | apply zqg | apply zqf | apply zqh) | exact HB.out)⟩
            ·
             rw [if_neg c16] at H
             have c16b0 : decide ((rd x0_4 x6_4) < 48) = false := decide_eq_false c16
             clear c16
             by_cases c18 : (rd x0_4 x6_4) > 57
             ·
              rw [if_pos c18] at H
              have c18b0 : decide (57 < (rd x0_4 x6_4)) = true := decide_eq_true c18
              clear c18
              simp only [Option.some.injEq, Prod.mk.injEq] at H
              obtain ⟨rfl, rfl⟩ := H
              obtain ⟨Ao19, co19, eo19⟩ := Kd.V_slice HO_0.out
              subst eo19
              have p237 : 0 ≤ (x6_4 : Int) := of_decide_eq_true (by first | (with_reducible assumption) | assumption)
              have q237 : x6_4 < (x0_4.length : Int) := of_decide_eq_true (by first | (with_reducible assumption) | assumption)
              obtain ⟨ad237, e237, hx237_0⟩ := Kd.at_int (Kd.V_reads' HO_0.out).2.2 x6_4 p237 q237
              cases e237
              replace p237 := eq_true p237
              replace q237 := eq_true q237
              have p238 : 0 ≤ (x6_4 : Int) := of_decide_eq_true (by first | (with_reducible assumption) | assumption)
              have q238 : x6_4 < (x0_4.length : Int) := of_decide_eq_true (by first | (with_reducible assumption) | assumption)
              obtain ⟨ad238, e238, hx238_0⟩ := Kd.at_int (Kd.V_reads' HO_0.out).2.2 x6_4 p238 q238
              obtain rfl : ad237 = ad238 := (by injection e238)
              replace p238 := eq_true p238
              replace q238 := eq_true q238
              go_wp2
              go_ret2
              exact ⟨by first | rfl | (simp [errW_none, errW_some] <;> rfl) | (simp [*, errW_none, errW_some] <;> rfl), by repeat (first | (with_reducible first | exact HB.out | apply zqg | apply zqf | apply zqh) | exact HB.out)⟩
             ·
              rw [if_neg c18] at H
              have c18b0 : decide (57 < (rd x0_4 x6_4)) = false := decide_eq_false c18
              clear c18
              have H' := zqi H
              clear H
              obtain ⟨Ao20, co20, eo20⟩ := Kd.V_slice HO_0.out
              subst eo20
              have p237 : 0 ≤ (x6_4 : Int) := of_decide_eq_true (by first | (with_reducible assumption) | assumption)
              have q237 : x6_4 < (x0_4.length : Int) := of_decide_eq_true (by first | (with_reducible assumption) | assumption)
              obtain ⟨ad237, e237, hx237_0⟩ := Kd.at_int (Kd.V_reads' HO_0.out).2.2 x6_4 p237 q237
              cases e237
              replace p237 := eq_true p237
              replace q237 := eq_true q237
              have p238 : 0 ≤ (x6_4 : Int) := of_decide_eq_true (by first | (with_reducible assumption) | assumption)
              have q238 : x6_4 < (x0_4.length : Int) := of_decide_eq_true (by first | (with_reducible assumption) | assumption)
              obtain ⟨ad238, e238, hx238_0⟩ := Kd.at_int (Kd.V_reads' HO_0.out).2.2 x6_4 p238 q238
              obtain rfl : ad237 = ad238 := (by injection e238)
              replace p238 := eq_true p238
              replace q238 := eq_true q238
              have p239 : 0 ≤ (x6_4 : Int) := of_decide_eq_true (by first | (with_reducible assumption) | assumption)
              have q239 : x6_4 < (x0_4.length : Int) := of_decide_eq_true (by first | (with_reducible assumption) | assumption)
              obtain ⟨ad239, e239, hx239_0⟩ := Kd.at_int (Kd.V_reads' HO_0.out).2.2 x6_4 p239 q239
              obtain rfl : ad237 = ad239 := (by injection e239)
              replace p239 := eq_true p239
              replace q239 := eq_true q239
              go_wp2
              go_roundg k4
              case measure => have := HJ1.out; have := HJ4.out; have := HJ8.out; have := HK4.out; omega
              case rel => exact ⟨(wrap64 ((wrap64 (10 * x5_4)) + (((rd x0_4 x6_4) - 48) % 256))), (wrap64 (x6_4 + 1)), (by first | rfl | (simp; done) | (simp [*]; done)), (by first | rfl | (simp; done) | (simp [*]; done)), H', ⟨by have := HJ1.out; have := HJ4.out; have := HJ8.out; have := HK4.out; omega⟩, ⟨by (with_reducible repeat (first | apply Kd.V_alloc | apply Kd.V_drewN | apply Kd.V_drew)); exact HO_0.out⟩, ⟨by repeat (first | (with_reducible first | exact HB.out | apply zqg | apply zqf | apply zqh) | exact HB.out)⟩⟩
           ·
            rw [if_neg c15] at H
            exact absurd H (by simp)
          ·
           rw [if_neg c14] at H
           have c14b0 : decide (x6_4 < (x0_4.length : Int)) = false := decide_eq_false c14
           clear c14
           by_cases c21 : x4_1 = true
           ·
            subst c21
            have H1 : (some (wrap64 (-x5_4), true)) = some (r1, r2) := by rw [if_pos rfl] at H; exact H
            clear H
            have H := H1
            clear H1
            simp only [Option.some.injEq, Prod.mk.injEq] at H
            obtain ⟨rfl, rfl⟩ := H
            obtain ⟨Ao22, co22, eo22⟩ := Kd.V_slice HO_0.out
            subst eo22
            go_wp2
            go_ret2
            exact ⟨by first | rfl | (simp [errW_none, errW_some] <;> rfl) | (simp [*, errW_none, errW_some] <;> rfl), by repeat (first | (with_reducible first | exact HB.out | apply zqg | apply zqf | apply zqh) | exact HB.out)⟩
           ·
            replace c21 := Bool.eq_false_iff.mpr c21
            subst c21
            have H1 : (some (x5_4, true)) = some (r1, r2) := by rw [if_neg (show ¬ (false = true) by decide)] at H; exact H
            clear H
            have H := H1
            clear H1
            simp only [Option.some.injEq, Prod.mk.injEq] at H
            obtain ⟨rfl, rfl⟩ := H
            obtain ⟨Ao23, co23, eo23⟩ := Kd.V_slice HO_0.out
            subst eo23
            go_wp2
            go_ret2
            exact ⟨by first | rfl | (simp [errW_none, errW_some] <;> rfl) | (simp [*, errW_none, errW_some] <;> rfl), by repeat (first | (with_reducible first | exact HB.out | apply zqg | apply zqf | apply zqh) | exact HB.out)⟩

end Go.Proofs.YtifekgemngfidaaDoor.PA
