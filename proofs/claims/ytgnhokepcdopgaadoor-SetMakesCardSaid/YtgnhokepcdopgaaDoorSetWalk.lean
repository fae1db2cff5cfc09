/- Sets of stops: the iterator, All, Shift, bit, walked. -/
import Derived.RangeFuncBox
import Derived.RangeFuncLeaves
import Derived.RangeFuncFrom
import Derived.RangeFuncCalls
import Derived.Shelf.Abstract
import Derived.Shelf.Spec.TrailingZeros
import Derived.WalkKit
import Derived.OwnWalkIn
import Derived.TacticsInMore
import Derived.LoopNIn
import Derived.LoopIn
import Derived.Maps.AppendAt
import Derived.RegionIn
import Derived.Deep.RegionHeld
import Derived.Shelf.RegionOpen
import Derived.Test.YtgnhokepcdopgaaDoorProg
namespace Go.Proofs.YtgnhokepcdopgaaDoor.SetWalk
open Go.Proofs
open Go.RowKit Go.Shelf
set_option linter.unusedVariables false
attribute [local go_sem] Oper.semAt_some

set_option maxHeartbeats 1000000 in
theorem tz64_core (x k idx : Nat) (w : World) (hx0 : ((x : Int) == 0) = false)
    (key : IntKind.u64.wrap (bits BinOp.and IntKind.u64 (x : Int) (IntKind.u64.wrap (-(x : Int))) * 285870213051353865) / 288230376151711744 = (idx : Int))
    (hi : idx < 64) (hk : k < 64) (hcell : w.cell? ⟨0, idx, none⟩ = some (.int .u8 k)) :
    Calls Tryd.prog 35 #[.int .u64 x] w fun e w' => e = .returned (.int .i64 k) ∧ w' = w := by
  go_enter Tryd.func35, Tryd.ntmps35
  go_wp2_with (simp only [key])
  go_ret
  exact ⟨rfl, rfl⟩

/-- The table of TrailingZeros64 lies in its variable. -/
def SetTab (w : World) : Prop := TabAt 0 Lib.deBruijn64tab w
theorem SetTab.below {n₀ : Nat} {A B : World} (h1 : 1 ≤ n₀) (h : Below n₀ A B) (hT : SetTab A) : SetTab B := fun j hj => (h.cell (p := ⟨0, j, none⟩) (by show 0 < n₀; omega)).trans (hT j hj)

theorem SetTab.some {w : World} (hT : SetTab w) : 1 ≤ w.heap.size := by
  have h := hT 0 (by decide)
  apply Nat.lt_of_not_le
  intro hle
  have h0 : w.heap[0]? = none := Array.getElem?_eq_none (by omega)
  simp [World.cell?, h0] at h
/-- It lies on in whatever world keeps what lay. -/
theorem SetTab.on {w W : World} (hT : SetTab w) (h : Below w.heap.size w W) : SetTab W := SetTab.below hT.some h hT

theorem tz64 (x : Nat) (hx : x < 18446744073709551616) (hx0 : x ≠ 0) (w : World) (hT : SetTab w) :
    Calls Tryd.prog 35 #[.int .u64 x] w fun e w' => e = .returned (.int .i64 (Lib.ctz 64 x)) ∧ w' = w := by
  obtain ⟨hlow, hk⟩ := Lib.lowest_bit 64 x hx0 hx
  obtain ⟨hi, htab⟩ := Lib.deBruijn64_at _ hk
  have hcell := hT _ hi
  rw [htab] at hcell
  exact tz64_core x _ _ w (by simp; omega) (tz64_key x _ hx hx0 hlow) hi hk hcell

/-- The bits of a number, rising, as the iterator finds them. -/
def bitsF (t : Nat) : List Int := if h : t = 0 then [] else (Lib.ctz 64 t : Int) :: bitsF (t &&& (t - 1))
termination_by t
decreasing_by exact Nat.lt_of_le_of_lt Nat.and_le_right (by omega)

theorem bitsF_zero : bitsF 0 = [] := by unfold bitsF; simp
theorem bitsF_pos {t : Nat} (h : t ≠ 0) : bitsF t = (Lib.ctz 64 t : Int) :: bitsF (t &&& (t - 1)) := by rw [bitsF.eq_1 t]; simp [h]

def natOf : Value → Nat
  | .int _ x => x.toNat
  | _ => 0

theorem down_u64 (t : Nat) (h : t < 18446744073709551616) (h0 : t ≠ 0) : bits .and .u64 (t : Int) ((t : Int) - 1) = ((t &&& (t - 1) : Nat) : Int) := by
  have e : (t : Int) - 1 = ((t - 1 : Nat) : Int) := by omega
  rw [e, bits_and_u64_nat t _ h (by omega)]

set_option maxRecDepth 100000 in
set_option maxHeartbeats 2000000 in
theorem each1_in (n : Nat) (hn : 1 ≤ n) (l Bn n₀ : Nat) (h1 : 1 ≤ n₀) (s : Nat) (hs : s < 18446744073709551616) (J Jx : List Int → World → Prop)
    (hY : ∀ pre x W, J pre W → pre.length < (bitsF s).length → YieldAt Fence.wide (n - 1) Tryd.prog l #[.int .i64 x] W fun e W' =>
      (e = .returned (.bool true) ∧ J (pre ++ [x]) W' ∧ Below n₀ W W') ∨ (e = .returned (.bool false) ∧ Jx (pre ++ [x]) W'))
    (W : World) (hBn : W.cell? ⟨Bn, 0, none⟩ = some (.int .u64 s)) (hT : SetTab W) (h0 : J [] W) :
    CallsIn Fence.wide n Tryd.prog 34 #[.func (.yield l) #[] #[], .pointer (some ⟨Bn, 0, none⟩)] W fun e W' => (∃ v, e = .returned v) ∧
      ((∃ ys, ys = bitsF s ∧ J ys W') ∨ (∃ pre, pre <+: bitsF s ∧ Jx pre W')) := by
  refine callsIn_of_wp Tryd.func34 rfl trivial ?_ rfl
  simp only [Tryd.ntmps34, List.size_toArray, List.length_cons, List.length_nil, Nat.reduceAdd, Nat.reduceSub, Array.replicate_succ, Array.replicate_zero, List.push_toArray, List.append_toArray, List.nil_append, List.cons_append]
  gi_wp2
  gi_loopw [3] (fun p wr => ∃ (pre : List Int) (t : Nat), p = .int .u64 t ∧ t < 18446744073709551616 ∧ bitsF s = pre ++ bitsF t ∧ SetTab wr ∧ J pre wr)
    (fun p _ => natOf p)
  case atStart =>
    exact ⟨[], s, rfl, hs, rfl, hT, h0⟩
  case round =>
    obtain ⟨pre, t, rfl, ht, hx, hTr, hJs⟩ := hrel
    by_cases h0 : t = 0
    · subst h0
      gi_wp2
      go_end0
      exact ⟨⟨_, rfl⟩, .inl ⟨pre, by rw [hx, bitsF_zero]; simp, hJs⟩⟩
    · have hne : ((t : Int) == 0) = false := by simp; omega
      have hx2 := hx
      rw [bitsF_pos h0] at hx2
      obtain ⟨fn, tmps, assign, body, hy, hR⟩ := hY pre (Lib.ctz 64 t : Int) wr hJs (by rw [hx2]; simp)
      have hd := down_u64 t ht h0
      gi_wp2_with (refine ⟨trivial, ?_⟩; gi_at_call 35; refine (callsIn_wide.2 (tz64 t ht h0 _ hTr)).mono ?_; rintro e w' ⟨rfl, hw'⟩; rw [hw'])
      refine hR.mono ?_
      rintro e W3 (⟨rfl, hJ3, hk3⟩ | ⟨rfl, hJx3⟩)
      · gi_wp2
        go_roundw
        case rel => exact ⟨pre ++ [(Lib.ctz 64 t : Int)], t &&& (t - 1), rfl, Nat.lt_of_le_of_lt Nat.and_le_right (by omega), by rw [hx2]; simp, hTr.below h1 hk3, hJ3⟩
        case measure => simp only [natOf, Int.toNat_natCast]; exact Nat.lt_of_le_of_lt Nat.and_le_right (by omega)
      · gi_wp2
        refine bodyPost_ret (results_none rfl _ _ _) rfl ?_
        exact ⟨⟨_, rfl⟩, .inr ⟨pre ++ [(Lib.ctz 64 t : Int)], ⟨bitsF (t &&& (t - 1)), by rw [hx2]; simp⟩, hJx3⟩⟩

set_option maxHeartbeats 1000000 in
theorem each_in (n : Nat) (s : Int) (w : World) :
    CallsIn Fence.wide n Tryd.prog 30 #[.int .u64 s] w fun e w' => e = .returned (.func (.func 34) #[] #[.pointer (some ⟨w.heap.size, 0, none⟩)]) ∧ w' = w.alloc (.cells #[.int .u64 s] 22) := by
  refine callsIn_of_wp Tryd.func30 rfl trivial ?_ rfl
  simp only [Tryd.ntmps30, List.size_toArray, List.length_cons, List.length_nil, Nat.reduceAdd, Nat.reduceSub, Array.replicate_succ, Array.replicate_zero, List.push_toArray, List.append_toArray, List.nil_append, List.cons_append]
  gi_wp2
  go_ret
  exact ⟨rfl, rfl⟩

theorem each_stops (n : Nat) (hn : 1 ≤ n) (Bn n₀ : Nat) (h1 : 1 ≤ n₀) (s : Nat) (hs : s < 18446744073709551616) (w : World) (hBn : Bn < w.heap.size)
    (hc : w.cell? ⟨Bn, 0, none⟩ = some (.int .u64 s)) (hT : SetTab w) :
    SeqStopsK Fence.wide n Tryd.prog 34 #[.pointer (some ⟨Bn, 0, none⟩)] (fun x : Int => #[Value.int .i64 x]) (Below n₀) (fun ys => ys = bitsF s) (fun pre => pre <+: bitsF s) (bitsF s).length w := fun l J Jx W hW _ _ hY h0 =>
  each1_in n hn l Bn n₀ h1 s hs J Jx hY W ((hW.cell (p := ⟨Bn, 0, none⟩) hBn).trans hc) (hT.below (by omega) hW) h0

theorem info3 : (Tryd.prog.info? 3).map (fun i => (i.zero, i.size, i.bytes)) = some (some (.int .i64 0), 1, 8) := by kernel_rfl

set_option maxRecDepth 100000 in
set_option maxHeartbeats 2000000 in
theorem All_in (n : Nat) (hn : 3 ≤ n) (s : Nat) (hs : s < 18446744073709551616) (hlen : (bitsF s).length ≤ 64) (w : World) (hw1 : 1 ≤ w.heap.size) (hT : SetTab w) :
    CallsIn Fence.wide n Tryd.prog 25 #[.int .u64 s] w fun e W' => ∃ v, e = .returned v ∧ W'.ownsRow w.heap.size 3 1 v (bitsF s).length ((bitsF s).map (Value.int .i64)) ∧ (v = .slice none 0 0 ↔ bitsF s = []) ∧ Below w.heap.size w W' := by
  have h1 : 1 ≤ n := by omega
  obtain ⟨i0, hi, hz0, hz1, hz2⟩ := info_parts info3
  refine callsIn_of_wp_marks Tryd.func25 rfl trivial ?_ rfl
  simp only [Tryd.ntmps25, List.size_toArray, List.length_cons, List.length_nil, Nat.reduceAdd, Nat.reduceSub, Array.replicate_succ, Array.replicate_zero, List.push_toArray, List.append_toArray, List.nil_append, List.cons_append]
  gi_wp2_with (refine ⟨trivial, ?_⟩; gi_at_call 30; refine (each_in (n - 1) _ _).mono ?_; rintro e w' ⟨rfl, rfl⟩)
  have bO := Boxed.new w 33 (.slice none 0 0)
  have bN := Boxed.new (w.alloc (.cells #[.slice none 0 0] 33)) 22 (.int .u64 s)
  rw [World.size_alloc] at bN
  have hB0 : Below w.heap.size w ((w.alloc (.cells #[.slice none 0 0] 33)).alloc (.cells #[.int .u64 s] 22)) := ((Below.refl _ w).alloc (Nat.le_refl _) _).alloc (by simp) _
  refine wpIn_rangeFunc_ownG rfl h1 (gf := 34) (lb := #[.pointer (some ⟨w.heap.size + 1, 0, none⟩)]) rfl trivial (enters_of Tryd.func34 (by kernel_rfl) rfl)
    (each_stops (n - 1) (by omega) (w.heap.size + 1) w.heap.size hw1 s hs _ (by simp) bN.cell (hT.below hw1 hB0)) belowK_t (belowK_b (by simp; omega)) (Below.refl _ _) (fun _ => rfl)
    (fun pre W => (∃ v, Boxed W w.heap.size 33 v ∧ W.ownsRow w.heap.size 3 1 v pre.length (pre.map (Value.int .i64)) ∧ (v = .slice none 0 0 ↔ pre = [])) ∧ Below w.heap.size w W)
    (fun _ _ _ => False)
    (OwnFrom.and (Own.from (holdsRow_own w.heap.size w.heap.size 33 3 1 (fun pre => pre.length) (fun pre => pre.map (Value.int .i64)) (fun pre v => v = .slice none 0 0 ↔ pre = [])) _) (ownFrom_below (Nat.le_refl _) (by simp; omega)))
    (fun _ _ _ _ _ hs _ _ => hs)
    ⟨⟨_, bO.alloc _, World.ownsRow_nil _ _ _ _, by simp⟩, hB0⟩
    (fun x => { tmps := #[.int .u64 s, undef, .slice none 0 0, .pointer (some ⟨w.heap.size, 0, none⟩), .int .i64 x, .int .u64 s, .func (.func 34) #[] #[.pointer (some ⟨w.heap.size + 1, 0, none⟩)], .int .i64 x, undef, undef, undef, undef, undef], defers := [] }) ?assign ?body ?done ?stop
  case assign =>
    intro l x W K hK
    gi_wp2
    exact hK
  case body =>
    rintro l pre x W ⟨⟨v, hv, hrow, hnil⟩, hB⟩ hlt
    have hc := hv.cell
    gi_wp2_with (gi_at_builtin; refine wpListIn_append_own _ rfl _ _ 33 rfl w.heap.size 3 i0 (.int .i64 0) 1 8 Tryd.underlying33 hi hz0 hz1 hz2 rfl (by decide) _ _ _ rfl (hrow.alloc _) ⟨W.heap.size, 0, none⟩ 1 1 [.int .i64 x] rfl rfl (cell_one_new _ _ _) (by simp [Value.oneCell']) (by simp [maxLen]; omega) (by omega) (by have := hB.size; simp; omega) ?_; intro v' w1 hown' hgrow _; obtain ⟨g', cap', rfl⟩ := ownsRow_succ hown'; obtain ⟨hv1, hv2, hr2, hk2, hb2⟩ := hv.appended (by decide) hrow hB.size (Nat.le_refl _) hown' hgrow; have hc1 := hv1.cell; have hf1 := hv1.frozen)
    exact ⟨hk2.from _, hb2, ⟨_, hv2, by simpa using hr2, by simp⟩, hB.trans hb2⟩
  case done =>
    rintro D ys W hD rfl ⟨⟨v, hv, hrow, hnil⟩, hB⟩ hK
    have hc := hv.cell
    gi_wp2
    refine ⟨by simp, .inl ⟨_, _, rfl, run_takeDeferred hK, ?_⟩⟩
    exact ⟨_, results_tmp rfl _ _ _, v, rfl, ownsRow_putObj hrow _ hK rfl, hnil, hB.trans (belowK_b (w := w) (Nat.le_refl _) W D _ _ (by simp at hD; omega) hK rfl rfl)⟩
  case stop =>
    rintro D c pre W _ _ h _
    exact h.elim
/-- BIT -/
def bitV (i : Int) : Int := if i < 0 ∨ i > 63 then 0 else IntKind.u64.wrap (2 ^ i.toNat)
set_option maxHeartbeats 2000000 in
theorem bit_eq (a0 : Int) (w : World) : Calls Tryd.prog 31 #[.int .i64 a0] w fun e w' => e = .returned (.int .u64 (bitV a0)) ∧ w' = w := by
  unfold bitV
  by_cases c2 : a0 < 0
  · have c2b0 : decide (a0 < 0) = true := decide_eq_true c2
    rw [if_pos (.inl c2)]
    clear c2
    go_enter Tryd.func31, Tryd.ntmps31
    go_wp2
    go_ret
    exact ⟨rfl, rfl⟩
  · have c2b0 : decide (a0 < 0) = false := decide_eq_false c2
    by_cases c3 : a0 > 63
    · have c3b0 : decide (63 < a0) = true := decide_eq_true c3
      rw [if_pos (.inr c3)]
      clear c2 c3
      go_enter Tryd.func31, Tryd.ntmps31
      go_wp2
      go_ret
      exact ⟨rfl, rfl⟩
    · have c3b0 : decide (63 < a0) = false := decide_eq_false c3
      rw [if_neg (by omega)]
      have c4 : 0 ≤ a0 := by omega
      have c5 : decide (0 ≤ a0) = true := decide_eq_true c4
      have c6 : min a0.toNat 64 = a0.toNat := by omega
      clear c2 c3
      go_enter Tryd.func31, Tryd.ntmps31
      go_wp2
      go_ret
      exact ⟨by simp, rfl⟩

def shStep (b t i : Int) : Int := if -63 ≤ b ∧ b ≤ 63 then bits .or .u64 t (bitV (wrap64 (i + b))) else t
def shF (b : Int) (l : List Int) : Int := l.foldl (shStep b) 0
theorem shF_snoc (b : Int) (pre : List Int) (x : Int) : shF b (pre ++ [x]) = shStep b (shF b pre) x := by simp [shF]

set_option maxRecDepth 100000 in
set_option maxHeartbeats 4000000 in
theorem Shift_in (n : Nat) (hn : 3 ≤ n) (s : Nat) (hs : s < 18446744073709551616) (b : Int) (w : World) (hw1 : 1 ≤ w.heap.size) (hT : SetTab w) :
    CallsIn Fence.wide n Tryd.prog 12 #[.int .u64 s, .int .i64 b] w fun e W' => e = .returned (.int .u64 (shF b (bitsF s))) ∧ Below w.heap.size w W' := by
  have h1 : 1 ≤ n := by omega
  refine callsIn_of_wp_marks Tryd.func12 rfl trivial ?_ rfl
  simp only [Tryd.ntmps12, List.size_toArray, List.length_cons, List.length_nil, Nat.reduceAdd, Nat.reduceSub, Array.replicate_succ, Array.replicate_zero, List.push_toArray, List.append_toArray, List.nil_append, List.cons_append]
  gi_wp2_with (refine ⟨trivial, ?_⟩; gi_at_call 30; refine (each_in (n - 1) _ _).mono ?_; rintro e w' ⟨rfl, rfl⟩)
  have b0 := Boxed.new w 3 (.int .i64 b)
  have b1 := Boxed.new (w.alloc (.cells #[.int .i64 b] 3)) 22 (.int .u64 0)
  have b2 := Boxed.new ((w.alloc (.cells #[.int .i64 b] 3)).alloc (.cells #[.int .u64 0] 22)) 22 (.int .u64 s)
  simp only [World.size_alloc] at b1 b2
  have hB0 : Below w.heap.size w (((w.alloc (.cells #[.int .i64 b] 3)).alloc (.cells #[.int .u64 0] 22)).alloc (.cells #[.int .u64 s] 22)) := (((Below.refl _ w).alloc (Nat.le_refl _) _).alloc (by simp) _).alloc (by simp; omega) _
  refine wpIn_rangeFunc_ownF rfl h1 (gf := 34) (lb := #[.pointer (some ⟨w.heap.size + 1 + 1, 0, none⟩)]) rfl trivial (enters_of Tryd.func34 (by kernel_rfl) rfl)
    (each_stops (n - 1) (by omega) (w.heap.size + 1 + 1) w.heap.size hw1 s hs _ (by simp) b2.cell (hT.below hw1 hB0)) belowK_t (belowK_b (by simp; omega)) (Below.refl _ _) (fun _ => rfl)
    (fun pre W => (W.cell? ⟨w.heap.size, 0, none⟩ = some (.int .i64 b) ∧ W.cell? ⟨w.heap.size + 1, 0, none⟩ = some (.int .u64 (shF b pre)) ∧ W.frozen? ⟨w.heap.size + 1, 0, none⟩ = false) ∧ Below w.heap.size w W)
    (fun _ _ _ => False)
    (OwnFrom.and (Own.from (fun s A B row hs hg hr => ⟨cell_kept hs.1 hg hr, cell_kept hs.2.1 hg hr, (frozen_kept hs.2.1 hg hr).trans hs.2.2⟩) _) (ownFrom_below (Nat.le_refl _) (by simp; omega)))
    (fun _ _ _ _ _ hs _ _ => hs)
    ⟨⟨((b0.alloc _).alloc _).cell, (b1.alloc _).cell, (b1.alloc _).frozen⟩, hB0⟩
    (fun x => { tmps := #[.int .u64 s, .int .i64 b, undef, .pointer (some ⟨w.heap.size, 0, none⟩), .int .u64 0, .pointer (some ⟨w.heap.size + 1, 0, none⟩), .int .i64 x, .int .u64 s, .func (.func 34) #[] #[.pointer (some ⟨w.heap.size + 1 + 1, 0, none⟩)], .int .i64 x, undef, undef, undef, undef, undef, undef, undef, undef, undef, undef, undef, undef, undef], defers := [] }) ?assign ?body ?done ?stop
  case assign =>
    intro l x W K hK
    gi_wp2
    exact hK
  case body =>
    rintro l pre x W ⟨⟨hcb, hct, hft⟩, hB⟩ _
    have hd : 1 ≤ n - 1 - 1 := by omega
    have hmx : Tryd.prog.follows .mixedOrders = true := by kernel_rfl
    have hsn := shF_snoc b pre x
    unfold shStep at hsn
    by_cases d1 : -63 ≤ b
    · have d1b : decide (-63 ≤ b) = true := decide_eq_true d1
      by_cases d2 : b ≤ 63
      · have d2b : decide (b ≤ 63) = true := decide_eq_true d2
        rw [if_pos ⟨d1, d2⟩] at hsn
        clear d1 d2
        have hco : ∀ v, (W.setCell ⟨w.heap.size + 1, 0, none⟩ v).cell? ⟨w.heap.size, 0, none⟩ = some (.int .i64 b) := fun v => (World.cell?_setCell_far _ _ _ _ (by show w.heap.size + 1 ≠ w.heap.size; omega)).trans hcb
        gi_wp2
        gi_region_with_o (refine ⟨trivial, ?_⟩; gi_at_call 31; refine (CallsIn.inRound l (callsIn_wide.2 (bit_eq _ _))).mono ?_; rintro e w' ⟨rfl, rfl⟩)
        all_goals gi_wp2
        all_goals (try go_bits)
        all_goals exact ⟨(KeepsOthers.setCell _ _ _).trans (KeepsOthers.drew _), ((Below.refl w.heap.size W).setCell (p := ⟨w.heap.size + 1, 0, none⟩) (by simp) _).drew, ⟨hco _, by rw [hsn]; exact World.cell?_setCell_same' _ _ _ (by rw [hct]; rfl), by rw [frozen_drew_own, World.frozen?_setCell]; exact hft⟩, (hB.setCell (p := ⟨w.heap.size + 1, 0, none⟩) (by simp) _).drew⟩
      · have d2b : decide (b ≤ 63) = false := decide_eq_false d2
        rw [if_neg (by omega)] at hsn
        clear d1 d2
        gi_wp2
        exact ⟨KeepsOthers.refl _, Below.refl _ _, ⟨hcb, by rw [hsn]; exact hct, hft⟩, hB⟩
    · have d1b : decide (-63 ≤ b) = false := decide_eq_false d1
      rw [if_neg (by omega)] at hsn
      clear d1
      gi_wp2
      exact ⟨KeepsOthers.refl _, Below.refl _ _, ⟨hcb, by rw [hsn]; exact hct, hft⟩, hB⟩
  case done =>
    rintro D ys W hD rfl ⟨⟨_, hct, _⟩, hB⟩ hK
    gi_wp2
    refine ⟨by simp, .inl ⟨_, _, rfl, run_takeDeferred hK, ?_⟩⟩
    exact ⟨_, results_tmp rfl _ _ _, rfl, hB.trans (belowK_b (w := w) (Nat.le_refl _) W D _ _ (by simp at hD; omega) hK rfl rfl)⟩
  case stop =>
    rintro D c pre W _ _ h _
    exact h.elim
end Go.Proofs.YtgnhokepcdopgaaDoor.SetWalk
