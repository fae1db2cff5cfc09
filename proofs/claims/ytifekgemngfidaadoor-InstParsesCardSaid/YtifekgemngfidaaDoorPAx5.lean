-- Printed for this claim by wip/tools/xprint.py over the kit's print; the contracts marked BY HAND are this session's own.
import Derived.Test.YtifekgemngfidaaDoorPAx0
namespace Go.Proofs.YtifekgemngfidaaDoor.PA
open Go.RowKit Go.Proofs.YtifekgemngfidaaDoorW.PrintWords Go.Proofs.YtifekgemngfidaaDoorW.PrintLast Go.Proofs.YtifekgemngfidaaDoorW.PrintMore
attribute [local go_sem] max2_int min2_int max_two min_two max_three min_three max_four min_four   -- for this text's walks alone
set_option linter.unusedVariables false
set_option linter.unusedSimpArgs false

/-! ### slices_ContainsFunc_int_int: function 21, BY HAND -/
/-- Is a line not of six numbers? -/
def slices_ContainsFunc_int_int.f (l0 : List (List Int)) (a1 : Int) : Option Bool := some (l0.any fun l => l.length != 6)
theorem odd_same (A : Option Addr) (n c : Nat) (w : World) : Calls Tryd.prog 20 #[.slice A n c] w fun e w' => e = .returned (.bool (n != 6)) ∧ w' = w := by
  by_cases h : n = 6
  · subst h
    go_enter Tryd.func20, Tryd.ntmps20
    go_wp2
    go_ret
    exact ⟨rfl, rfl⟩
  · have h1 : (n != 6) = true := bne_iff_ne.mpr h
    have h2 : ((n : Int) != 6) = true := bne_iff_ne.mpr (by omega)
    go_enter Tryd.func20, Tryd.ntmps20
    go_wp2
    go_ret
    exact ⟨by simp [h1], rfl⟩
theorem hidQ {p : Prop} (h : p) : Hid p := h
theorem rd_L_at {l : List (List Int)} {i : Nat} (h : i < l.length) : rd_L3 l (i : Int) = l[i] := by unfold rd_L3; simp [List.getD, List.getElem?_eq_getElem h]
set_option maxHeartbeats 4000000 in
theorem index_func (A0 : Option Addr) (c0 : Nat) (l0 : List (List Int)) (w : World) (hr0 : Kd.C (Kd.slice 3 (Kd.int .i64)) w A0 l0.length l0) :
    Calls Tryd.prog 33 #[.slice A0 l0.length c0, .func (.func 20) #[] #[]] w fun e w' => ∃ i : Int, e = .returned (.int .i64 i) ∧ (decide (0 ≤ i) = l0.any fun l => l.length != 6) ∧ w' = w := by
  have hmax0 := Kd.C_max hr0
  have HR0 := hidQ hr0
  clear hr0
  go_enter Tryd.func33, Tryd.ntmps33
  go_wp2
  go_loopg [8] (l0.length + 1) (fun kq v8 wr => ∃ (i : Nat), Hid (kq = l0.length + 1 - i) ∧ v8 = .int .i64 (i : Int) ∧ i ≤ l0.length ∧ Hid (wr = w) ∧ Hid (((l0.take i).any fun l => l.length != 6) = false))
  case atStart => exact ⟨0, hidQ rfl, rfl, by omega, hidQ rfl, hidQ rfl⟩
  case round =>
    obtain ⟨i, HI, rfl, hi, HW, HA⟩ := hrel
    have hw := HW.out
    subst hw
    by_cases hlt : i < l0.length
    · have t1 : decide ((i : Int) < (l0.length : Int)) = true := decide_eq_true (by omega)
      have t1n : decide (i < l0.length) = true := decide_eq_true (by omega)
      obtain ⟨ad, A1, c1, e1, hx1, hl1, hi1⟩ := at_L3 HR0.out (i : Int) (by omega) (by omega)
      cases e1
      have p1 : (0 ≤ (i : Int)) = True := eq_true (by omega)
      have q1 : ((i : Int) < (l0.length : Int)) = True := eq_true (by omega)
      rw [rd_L_at hlt] at hx1
      rw [Int.toNat_natCast] at hx1
      obtain ⟨n, hn⟩ : ∃ n, n = l0[i].length := ⟨_, rfl⟩
      rw [← hn] at hx1
      clear hl1 hi1
      by_cases h6 : n = 6
      · have g1 : (n != 6) = false := by rw [h6]; rfl
        have HNX : Hid (((l0.take (i + 1)).any fun l => l.length != 6) = false) := hidQ (by
          rw [List.take_succ_eq_append_getElem hlt, List.any_append, HA.out]
          simp only [List.any_cons, List.any_nil, ← hn, g1]; rfl)
        clear hn h6
        go_wp2_with (go_at_call 20; (with_reducible refine (odd_same _ _ _ _).mono ?_); rintro e w1 ⟨rfl, rfl⟩)
        go_roundg (l0.length + 1 - (i + 1))
        case measure => have := HI.out; omega
        case rel => exact ⟨i + 1, hidQ rfl, by go_num, by omega, hidQ rfl, HNX⟩
      · have g1 : (n != 6) = true := bne_iff_ne.mpr h6
        have HNX : Hid ((l0.any fun l => l.length != 6) = true) := hidQ (by
          rw [List.any_eq_true]
          exact ⟨l0[i], List.getElem_mem hlt, by rw [← hn]; exact g1⟩)
        clear hn h6
        go_wp2_with (go_at_call 20; (with_reducible refine (odd_same _ _ _ _).mono ?_); rintro e w1 ⟨rfl, rfl⟩)
        go_ret
        exact ⟨_, rfl, by rw [HNX.out]; exact decide_eq_true (by omega), rfl⟩
    · have t1 : decide ((i : Int) < (l0.length : Int)) = false := decide_eq_false (by omega)
      have t1n : decide (i < l0.length) = false := decide_eq_false (by omega)
      have HNX : Hid ((l0.any fun l => l.length != 6) = false) := hidQ (by have := HA.out; rwa [List.take_of_length_le (by omega)] at this)
      go_wp2
      go_ret
      exact ⟨_, rfl, by rw [HNX.out]; rfl, rfl⟩
set_option maxHeartbeats 4000000 in
theorem slices_ContainsFunc_int_int.calls (A0 : Option Addr) (c0 : Nat) (l0 : List (List Int)) (a1 : Int) (r : Bool) (w : World) (hr0 : Kd.C (Kd.slice 3 (Kd.int .i64)) w A0 l0.length l0) (hc0 : l0.length ≤ c0) (h : slices_ContainsFunc_int_int.f l0 a1 = some r) :
    Calls Tryd.prog 21 #[.slice A0 l0.length c0, .func (.func 20) #[] #[]] w fun e w' => e = .returned (.bool r) ∧ Below w.heap.size w w' := by
  have HR0 := hidQ hr0
  have H := hidQ (Option.some.inj h)
  clear hr0 hc0 h
  go_enter Tryd.func21, Tryd.ntmps21
  go_wp2_with (go_at_call 33; (with_reducible refine (index_func _ _ l0 _ HR0.out).mono ?_); rintro e w1 ⟨i, rfl, hd, rfl⟩; have HD := hidQ hd; clear hd)
  go_ret
  exact ⟨by have := HD.out; rw [H.out] at this; simp [this], Below.refl _ _⟩

/-! ### inst_stop: function 22, BY HAND -/
def inst_stop.f (l : List Int) : Option (Int × Int × Int × Int × Int × Int) := if l.length = 6 then some (rd l 0, rd l 1, rd l 2, rd l 3, rd l 4, rd l 5) else none
theorem inst_stop.array (ad : Addr) (c : Nat) (W : World) : (Instr.arrayAt 61 (.slice (some ad) 6 c)).run Tryd.prog W = .ok (.pointer (some ad)) W := by
  unfold Instr.arrayAt
  go_simp
set_option maxHeartbeats 8000000 in
set_option maxRecDepth 100000 in
theorem inst_stop.calls (A0 : Option Addr) (c0 : Nat) (l0 : List Int) (r1 r2 r3 r4 r5 r6 : Int) (w : World) (hr0 : Kd.C (Kd.int .i64) w A0 l0.length l0) (hc0 : l0.length ≤ c0) (h : inst_stop.f l0 = some (r1, r2, r3, r4, r5, r6)) :
    Calls Tryd.prog 22 #[.slice A0 l0.length c0] w fun e w' => e = .returned (.agg #[.int .i64 r1, .int .i64 r2, .int .i64 r3, .int .i64 r4, .int .i64 r5, .int .i64 r6]) ∧ Below w.heap.size w w' := by
  unfold inst_stop.f at h
  split at h
  case isFalse => cases h
  case isTrue hl =>
    simp only [Option.some.injEq, Prod.mk.injEq] at h
    obtain ⟨rfl, rfl, rfl, rfl, rfl, rfl⟩ := h
    obtain ⟨ad, ea, hx0⟩ := Kd.at_int hr0 0 (by omega) (by omega)
    obtain ⟨ad1, ea1, hx1⟩ := Kd.at_int hr0 1 (by omega) (by omega)
    obtain ⟨ad2, ea2, hx2⟩ := Kd.at_int hr0 2 (by omega) (by omega)
    obtain ⟨ad3, ea3, hx3⟩ := Kd.at_int hr0 3 (by omega) (by omega)
    obtain ⟨ad4, ea4, hx4⟩ := Kd.at_int hr0 4 (by omega) (by omega)
    obtain ⟨ad5, ea5, hx5⟩ := Kd.at_int hr0 5 (by omega) (by omega)
    cases ea
    cases ea1
    cases ea2
    cases ea3
    cases ea4
    cases ea5
    rw [hl]
    simp only [show (0 : Int).toNat = 0 from rfl, show (1 : Int).toNat = 1 from rfl, show (2 : Int).toNat = 2 from rfl, show (3 : Int).toNat = 3 from rfl, show (4 : Int).toNat = 4 from rfl, show (5 : Int).toNat = 5 from rfl, Addr.add_zero'] at hx0 hx1 hx2 hx3 hx4 hx5
    simp only [Nat.reduceEqDiff, Go.Addr.add, ↓reduceIte] at hx1 hx2 hx3 hx4 hx5
    have hsa := fun W => inst_stop.array ad c0 W
    generalize rd l0 0 = a0 at *
    generalize rd l0 1 = a1 at *
    generalize rd l0 2 = a2 at *
    generalize rd l0 3 = a3 at *
    generalize rd l0 4 = a4 at *
    generalize rd l0 5 = a5 at *
    replace hx0 : ∀ o, (w.alloc o).cell? ad = some (.int .i64 a0) := fun o => ((below_alloc (Below.refl w.heap.size w) o).cell (World.block_lt_of_cell? w _ hx0)).trans hx0
    replace hx1 : ∀ o, (w.alloc o).cell? { block := ad.block, off := ad.off + 1 } = some (.int .i64 a1) := fun o => ((below_alloc (Below.refl w.heap.size w) o).cell (World.block_lt_of_cell? w _ hx1)).trans hx1
    replace hx2 : ∀ o, (w.alloc o).cell? { block := ad.block, off := ad.off + 2 } = some (.int .i64 a2) := fun o => ((below_alloc (Below.refl w.heap.size w) o).cell (World.block_lt_of_cell? w _ hx2)).trans hx2
    replace hx3 : ∀ o, (w.alloc o).cell? { block := ad.block, off := ad.off + 3 } = some (.int .i64 a3) := fun o => ((below_alloc (Below.refl w.heap.size w) o).cell (World.block_lt_of_cell? w _ hx3)).trans hx3
    replace hx4 : ∀ o, (w.alloc o).cell? { block := ad.block, off := ad.off + 4 } = some (.int .i64 a4) := fun o => ((below_alloc (Below.refl w.heap.size w) o).cell (World.block_lt_of_cell? w _ hx4)).trans hx4
    replace hx5 : ∀ o, (w.alloc o).cell? { block := ad.block, off := ad.off + 5 } = some (.int .i64 a5) := fun o => ((below_alloc (Below.refl w.heap.size w) o).cell (World.block_lt_of_cell? w _ hx5)).trans hx5
    clear hl hr0 hc0
    go_enter Tryd.func22, Tryd.ntmps22
    go_wp2
    refine bodyPost_ret (v := .agg #[.int .i64 a0, .int .i64 a1, .int .i64 a2, .int .i64 a3, .int .i64 a4, .int .i64 a5]) ?_ rfl ⟨rfl, ?_⟩
    · (simp only [results, Tryd.results22]; go_simp)
    · exact below_alloc (below_alloc (Below.refl _ _) _) _

end Go.Proofs.YtifekgemngfidaaDoor.PA
