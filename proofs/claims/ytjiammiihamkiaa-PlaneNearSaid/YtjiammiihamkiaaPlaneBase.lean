import Derived.Test.YtjiammiihamkiaaMayBase
import Derived.Test.YtjiammiihamkiaaRootBase
import Derived.Test.YtjiammiihamkiaaPAx4
import Derived.Test.YtjiammiihamkiaaPAx8
import Derived.Test.YtjiammiihamkiaaPAx7
import Derived.Test.YtjiammiihamkiaaPAx1
/-! The matrix of an instance, and how far it is from the nearest stop: the program's. -/
namespace Go.Proofs.Ytjiammiihamkiaa.Plane
open Go.RowKit Go.Proofs.YtjiammiihamkiaaW.PrintWords Go.Proofs.YtjiammiihamkiaaW.PrintLast Go.Proofs.YtjiammiihamkiaaW.PrintMore Go.Proofs.Ytjiammiihamkiaa.PA Go.Proofs.Ytjiammiihamkiaa.Inst
open Go.Proofs.Ytjiammiihamkiaa.Num (rootTop_spec root_unique rootTop_zero capS capS_bd capS_in capS_big capS_low root_f coord_in sqD sqD_bd farZ far_f farZ_spec farZ_comm farZ_zero farZ_345 farZ_11 Ev.succ sq_lt)
set_option linter.unusedVariables false
theorem awake06 : haulierlaw06_awake.f = some true := by
  unfold haulierlaw06_awake.f
  simp only [far_f, farZ_345, farZ_11, Option.bind_some, if_true, beq_self_eq_true]
def farS (a b : St) : Int := farZ a.f0 a.f1 b.f0 b.f1
def matS (l : List St) : List (List Int) := l.map fun a => l.map fun b => farS a b
theorem farS_bd (a b : St) : 0 ≤ farS a b ∧ farS a b ≤ 14143 := ⟨(farZ_spec _ _ _ _).1, (farZ_spec _ _ _ _).2.1⟩
theorem mat_len (l : List St) : (matS l).length = l.length := by simp [matS]
theorem mat_row {l : List St} {i : Nat} (h : i < l.length) : rd_L2 (matS l) (i : Int) = l.map fun b => farS l[i] b := by
  unfold rd_L2 matS; simp [List.getD, List.getElem?_eq_getElem h]
theorem mat_at {l : List St} {i j : Nat} (h : i < l.length) (h' : j < l.length) : rd (rd_L2 (matS l) (i : Int)) (j : Int) = farS l[i] l[j] := by
  rw [mat_row h]; unfold rd; simp [List.getD, List.getElem?_eq_getElem h']
theorem take_map_succ {α β : Type} (f : α → β) (l : List α) {i : Nat} (h : i < l.length) : (l.take (i + 1)).map f = (l.take i).map f ++ [f l[i]] := by
  rw [List.take_succ_eq_append_getElem h, List.map_append]; rfl
theorem pmat_row (p c r : Int) (l : List St) (hl : l.length ≤ 1000) (m : List (List Int)) (a : St) (i : Int) (R : List (List Int)) (hm : m.length ≤ 1000)
    (hgo : Ev (fun k => plane_Matrix.l0 k (m ++ [l.map fun b => farS a b]) l (l.length : Int) (wrap64 (i + 1)) p c r l) R) : ∀ (d j : Nat), j + d = l.length →
    Ev (fun k => plane_Matrix.l1 k m ((l.take j).map fun b => farS a b) l (l.length : Int) i l (l.length : Int) (j : Int) p c r l a.f0 a.f1 a.f2 a.f3 a.f4 a.f5) R := by
  intro d
  induction d with
  | zero =>
    intro j hj
    refine Ev.step (fun k => ?_) hgo
    simp only [plane_Matrix.l1]
    rw [if_neg (by omega), if_pos (by omega), List.take_of_length_le (by omega)]
  | succ d ih =>
    intro j hj
    have hlt : j < l.length := by omega
    refine Ev.step (fun k => ?_) (ih (j + 1) (by omega))
    simp only [plane_Matrix.l1, far_f, Option.bind_some]
    rw [if_pos (by omega), if_pos (by omega), if_pos (by omega), rdS_at hlt, if_pos (by simp; omega), w_next hlt (by omega), take_map_succ _ _ hlt]
    rfl
theorem pmat_loop (p c r : Int) (l : List St) (hl : l.length ≤ 1000) : ∀ (d i : Nat), i + d = l.length →
    Ev (fun k => plane_Matrix.l0 k ((l.take i).map fun a => l.map fun b => farS a b) l (l.length : Int) (i : Int) p c r l) (matS l) := by
  intro d
  induction d with
  | zero =>
    intro i hi
    refine Ev.step (f := fun _ => some (matS l)) (fun k => ?_) (Ev.now _)
    simp only [plane_Matrix.l0]
    rw [if_neg (by omega), List.take_of_length_le (by omega)]; rfl
  | succ d ih =>
    intro i hi
    have hlt : i < l.length := by omega
    have h := ih (i + 1) (by omega)
    rw [take_map_succ _ _ hlt, ← w_next hlt (by omega)] at h
    refine Ev.step (fun k => ?_) (pmat_row p c r l hl _ l[i] (i : Int) (matS l) (by simp; omega) h l.length 0 (by omega))
    simp only [plane_Matrix.l0]
    rw [if_pos (by omega), if_pos (by omega), if_pos (by omega), rdS_at hlt]
    simp
def matI (p c r : Int) (l : List St) : List (List Int) := if mayB p c r l = true then matS l else []
theorem pmat_ev (p c r : Int) (l : List St) (hl : l.length ≤ 1000) : Ev (fun k => plane_Matrix.f k p c r l) (matI p c r l) := by
  refine Ev.bind (may_ev p c r l) ?_
  unfold matI
  by_cases h : mayB p c r l = true
  · rw [h]; simp only [if_true]
    simpa using pmat_loop p c r l hl l.length 0 (by omega)
  · rw [Bool.eq_false_iff.mpr h]; simp only [Bool.false_eq_true, if_false]; exact Ev.now _
/-- The least of a column's first entries, but for one row; 2^60 if there is none. -/
def colM (l : List St) (k : Nat) : Nat → Int
  | 0 => 1152921504606846976
  | i + 1 => if i = k then colM l k i else mn (colM l k i) (farS (l.getD i z23) (l.getD k z23))
def nearV (l : List St) (k : Nat) : Int := if l.length ≤ 1 then 0 else colM l k l.length
def nearS (l : List St) : List Int := (List.range l.length).map fun k => nearV l k
theorem getD_at {l : List St} {i : Nat} (h : i < l.length) : l.getD i z23 = l[i] := by simp [List.getD, List.getElem?_eq_getElem h]
/-- Is a row among the first ones that is not the k-th? -/
def some_ (k i : Nat) : Prop := 1 ≤ i ∧ ¬ (k = 0 ∧ i = 1)
theorem colM_lo (l : List St) (k : Nat) : ∀ i, 0 ≤ colM l k i := by
  intro i
  induction i with
  | zero => simp [colM]
  | succ i ih =>
    simp only [colM]
    split
    · exact ih
    · have := (farS_bd (l.getD i z23) (l.getD k z23)).1
      unfold mn; split <;> omega
theorem colM_none (l : List St) (k i : Nat) (h : ¬ some_ k i) : colM l k i = 1152921504606846976 := by
  unfold some_ at h
  match i, h with
  | 0, _ => rfl
  | 1, h => have : k = 0 := by omega
            subst this; simp [colM]
  | i + 2, h => omega
theorem colM_some (l : List St) (k : Nat) : ∀ i, some_ k i → colM l k i ≤ 14143 := by
  intro i
  induction i with
  | zero => intro h; exact absurd h.1 (by omega)
  | succ i ih =>
    intro h
    simp only [colM]
    by_cases e : i = k
    · rw [if_pos e]
      refine ih ⟨?_, ?_⟩
      · have := h.2; omega
      · have := h.2; omega
    · rw [if_neg e]
      have := (farS_bd (l.getD i z23) (l.getD k z23)).2
      unfold mn; split <;> omega
theorem colM_le (l : List St) (k : Nat) : ∀ i j, j < i → j ≠ k → colM l k i ≤ farS (l.getD j z23) (l.getD k z23) := by
  intro i
  induction i with
  | zero => intro j h; omega
  | succ i ih =>
    intro j hj hk
    simp only [colM]
    by_cases e : i = k
    · rw [if_pos e]; exact ih j (by omega) hk
    · rw [if_neg e]
      by_cases ej : j = i
      · subst ej; unfold mn; split <;> omega
      · have := ih j (by omega) hk
        unfold mn; split <;> omega
theorem colM_hit (l : List St) (k : Nat) : ∀ i, some_ k i → ∃ j, j < i ∧ j ≠ k ∧ colM l k i = farS (l.getD j z23) (l.getD k z23) := by
  intro i
  induction i with
  | zero => intro h; exact absurd h.1 (by omega)
  | succ i ih =>
    intro h
    simp only [colM]
    by_cases e : i = k
    · rw [if_pos e]
      obtain ⟨j, h1, h2, h3⟩ := ih ⟨by have := h.2; omega, by have := h.2; omega⟩
      exact ⟨j, by omega, h2, h3⟩
    · rw [if_neg e]
      by_cases hs : some_ k i
      · obtain ⟨j, h1, h2, h3⟩ := ih hs
        by_cases hlt : farS (l.getD i z23) (l.getD k z23) < colM l k i
        · exact ⟨i, by omega, e, by unfold mn; rw [if_pos hlt]⟩
        · exact ⟨j, by omega, h2, by unfold mn; rw [if_neg hlt]; exact h3⟩
      · have := colM_none l k i hs
        have hb := (farS_bd (l.getD i z23) (l.getD k z23)).2
        exact ⟨i, by omega, e, by unfold mn; rw [if_pos (by omega)]⟩
theorem near_tmod (l : List St) (k : Nat) (hk : k < l.length) : Int.tmod (colM l k l.length) 1152921504606846976 = nearV l k := by
  unfold nearV
  by_cases h : l.length ≤ 1
  · rw [if_pos h, colM_none l k l.length (by unfold some_; omega)]; rfl
  · rw [if_neg h]
    have h1 := colM_some l k l.length (by unfold some_; omega)
    have h0 := colM_lo l k l.length
    rw [Int.tmod_eq_of_lt h0 (by omega)]
theorem range_snoc {β : Type} (f : Nat → β) (k : Nat) : (List.range (k + 1)).map f = (List.range k).map f ++ [f k] := by rw [List.range_succ]; simp
theorem pnear_col (l : List St) (hl : l.length ≤ 1000) (acc : List Int) (k : Nat) (hk : k < l.length) (R : List Int) (hacc : acc.length ≤ 1000)
    (hgo : Ev (fun q => plane_Near.l0 q (matS l) (acc ++ [nearV l k]) (l.length : Int) (wrap64 ((k : Int) + 1))) R) : ∀ (d i : Nat), i + d = l.length →
    Ev (fun q => plane_Near.l1 q (matS l) acc (k : Int) (colM l k i) (l.length : Int) (k : Int) (l.length : Int) (i : Int)) R := by
  intro d
  induction d with
  | zero =>
    intro i hi
    obtain rfl : i = l.length := by omega
    refine Ev.step (fun q => ?_) hgo
    simp only [plane_Near.l1]
    rw [if_neg (by omega), if_pos (by omega), near_tmod l k hk]
  | succ d ih =>
    intro i hi
    have hlt : i < l.length := by omega
    have h := ih (i + 1) (by omega)
    simp only [colM] at h
    by_cases e : i = k
    · rw [if_pos e] at h
      refine Ev.step (fun q => ?_) h
      simp only [plane_Near.l1]
      rw [if_pos (by omega), if_pos (by omega), w_next hlt (by omega)]
    · rw [if_neg e] at h
      refine Ev.step (fun q => ?_) h
      simp only [plane_Near.l1]
      rw [if_pos (by omega), if_neg (by omega), if_pos (by omega), if_pos (by rw [mat_len]; omega), if_pos (by omega), if_pos (by rw [mat_row hlt]; simp; omega), mat_at hlt hk, w_next hlt (by omega), getD_at hlt, getD_at hk]
theorem pnear_loop (l : List St) (hl : l.length ≤ 1000) : ∀ (d k : Nat), k + d = l.length →
    Ev (fun q => plane_Near.l0 q (matS l) ((List.range k).map fun j => nearV l j) (l.length : Int) (k : Int)) (nearS l) := by
  intro d
  induction d with
  | zero =>
    intro k hk
    obtain rfl : k = l.length := by omega
    refine Ev.step (f := fun _ => some (nearS l)) (fun q => ?_) (Ev.now _)
    simp only [plane_Near.l0]
    rw [if_neg (by omega)]; rfl
  | succ d ih =>
    intro k hk
    have hlt : k < l.length := by omega
    have h := ih (k + 1) (by omega)
    rw [range_snoc, ← w_next hlt (by omega)] at h
    refine Ev.step (fun q => ?_) (pnear_col l hl _ k hlt (nearS l) (by simp; omega) h l.length 0 (by omega))
    simp only [plane_Near.l0]
    rw [if_pos (by omega), mat_len]
    rfl
def nearI (p c r : Int) (l : List St) : List Int := if mayB p c r l = true then nearS l else []
theorem pnear_ev (p c r : Int) (l : List St) (hl : l.length ≤ 1000) : Ev (fun k => plane_Near.f k p c r l) (nearI p c r l) := by
  refine Ev.bind (pmat_ev p c r l hl) ?_
  unfold matI nearI
  by_cases h : mayB p c r l = true
  · rw [if_pos h, if_pos h, mat_len]
    simpa using pnear_loop l hl l.length 0 (by omega)
  · rw [if_neg h, if_neg h]
    refine Ev.step (f := fun _ => some []) (fun k => ?_) (Ev.now _)
    simp [plane_Near.l0]
theorem same2_refl (x : List Int) (hx : x.length ≤ 10000) : Ev (fun k => haulierref02_Same.f k x x) true := by
  have h : ∀ (d i : Nat), i + d = x.length → Ev (fun k => haulierref02_Same.l0 k x x (i : Int)) true := by
    intro d
    induction d with
    | zero =>
      intro i hi
      refine Ev.step (f := fun _ => some true) (fun k => ?_) (Ev.now _)
      simp only [haulierref02_Same.l0]; rw [if_neg (by omega)]
    | succ d ih =>
      intro i hi
      refine Ev.step (fun k => ?_) (ih (i + 1) (by omega))
      simp only [haulierref02_Same.l0]; rw [if_pos (by omega), if_pos (by omega), if_pos (by omega), if_pos trivial, w_next (n := x.length) (by omega) (by omega)]
  refine Ev.congr (f := fun k => haulierref02_Same.l0 k x x ((0 : Nat) : Int)) (fun k => ?_) (h x.length 0 (by omega))
  simp only [haulierref02_Same.f]; rw [if_pos trivial]; rfl
theorem same4_l1 (x : List (List Int)) (hx : x.length ≤ 10000) (hy : ∀ l ∈ x, l.length ≤ 100000) (i : Nat) (hi : i < x.length) (hnext : Ev (fun k => haulierref04_Same.l0 k x x ((i + 1 : Nat) : Int)) true) : ∀ (d j : Nat), j + d = (rd_L2 x (i : Int)).length → Ev (fun k => haulierref04_Same.l1 k x x (i : Int) (j : Int)) true := by
  have hm : rd_L2 x (i : Int) = x[i] := by simp [rd_L2, List.getD, List.getElem?_eq_getElem hi]
  have hb : (rd_L2 x (i : Int)).length ≤ 100000 := by rw [hm]; exact hy _ (List.getElem_mem hi)
  intro d
  induction d with
  | zero =>
    intro j hj
    refine Ev.step (f := fun k => haulierref04_Same.l0 k x x ((i + 1 : Nat) : Int)) (fun k => ?_) hnext
    simp only [haulierref04_Same.l1]
    rw [if_pos (by omega), if_pos (by omega), if_neg (by omega), w64 (by omega) (by omega)]; rfl
  | succ d ih =>
    intro j hj
    refine Ev.step (f := fun k => haulierref04_Same.l1 k x x (i : Int) ((j + 1 : Nat) : Int)) (fun k => ?_) (ih (j + 1) (by omega))
    simp only [haulierref04_Same.l1]
    rw [if_pos (by omega), if_pos (by omega), if_pos (by omega), if_pos (by omega), if_pos (by omega), if_pos (by omega), if_pos trivial, w64 (by omega) (by omega)]; rfl
theorem same4_refl (x : List (List Int)) (hx : x.length ≤ 10000) (hy : ∀ l ∈ x, l.length ≤ 100000) : Ev (fun k => haulierref04_Same.f k x x) true := by
  have h : ∀ (d i : Nat), i + d = x.length → Ev (fun k => haulierref04_Same.l0 k x x (i : Int)) true := by
    intro d
    induction d with
    | zero =>
      intro i hi
      refine Ev.step (f := fun _ => some true) (fun k => ?_) (Ev.now _)
      simp only [haulierref04_Same.l0]; rw [if_neg (by omega)]
    | succ d ih =>
      intro i hi
      refine Ev.step (f := fun k => haulierref04_Same.l1 k x x (i : Int) ((0 : Nat) : Int)) (fun k => ?_) (same4_l1 x hx hy i (by omega) (ih (i + 1) (by omega)) (rd_L2 x (i : Int)).length 0 (by omega))
      simp only [haulierref04_Same.l0]; rw [if_pos (by omega), if_pos (by omega), if_pos (by omega), if_pos trivial]; rfl
  refine Ev.congr (f := fun k => haulierref04_Same.l0 k x x ((0 : Nat) : Int)) (fun k => ?_) (h x.length 0 (by omega))
  simp only [haulierref04_Same.f]; rw [if_pos trivial]; rfl
theorem mat_same (p c r : Int) (l : List St) (hl : l.length ≤ 1000) : Ev (fun k => haulierref04_Same.f k (matI p c r l) (matI p c r l)) true := by
  refine same4_refl _ ?_ ?_
  · unfold matI; split
    · rw [mat_len]; omega
    · simp
  · unfold matI; split
    · intro q hq; simp only [matS, List.mem_map] at hq; obtain ⟨a, _, rfl⟩ := hq; simp; omega
    · simp
theorem near_same (p c r : Int) (l : List St) (hl : l.length ≤ 1000) : Ev (fun k => haulierref02_Same.f k (nearI p c r l) (nearI p c r l)) true := by
  refine same2_refl _ ?_
  unfold nearI; split
  · simp [nearS]; omega
  · simp
end Go.Proofs.Ytjiammiihamkiaa.Plane
