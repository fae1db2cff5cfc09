import Derived.Test.YtjiammiihamkiaaMayRef
import Derived.Test.YtjiammiihamkiaaRootBase
import Derived.Test.YtjiammiihamkiaaPAx4
import Derived.Test.YtjiammiihamkiaaPAx8
import Derived.Test.YtjiammiihamkiaaPAx7
import Derived.Test.YtjiammiihamkiaaPAx9
import Derived.Test.YtjiammiihamkiaaPAx1
/-! The matrix of an instance, and how far it is from the nearest stop: the program's and the reference's. -/
namespace Go.Proofs.Ytjiammiihamkiaa.Plane
open Go.RowKit Go.Proofs.YtjiammiihamkiaaW.PrintWords Go.Proofs.YtjiammiihamkiaaW.PrintLast Go.Proofs.YtjiammiihamkiaaW.PrintMore Go.Proofs.Ytjiammiihamkiaa.PA Go.Proofs.Ytjiammiihamkiaa.Inst
open Go.Proofs.Ytjiammiihamkiaa.Num (rootTop_spec root_unique rootTop_zero capS capS_bd capS_in capS_big capS_low root_f coord_in sqD sqD_bd farZ far_f farZ_spec farZ_comm farZ_zero farZ_345 farZ_11 Ev.succ sq_lt)
set_option linter.unusedVariables false
theorem awake06 : haulierlaw06_awake.f = some true := by
  unfold haulierlaw06_awake.f
  simp only [far_f, farZ_345, farZ_11, Option.bind_some, if_true, beq_self_eq_true]
theorem refroot_loop (m : Int) (h0 : 0 < m) (h1 : m ≤ 1152921504606846976) (d : Nat) : ∀ (a b : Int), 0 ≤ a → a < b → b ≤ 1073741824 → b - a ≤ (d : Int) + 1 → (a = 0 ∨ a * a < m) → m ≤ b * b →
    Ev (fun k => haulierref01_Root.l0 k m a b) (rootTop m) := by
  induction d with
  | zero =>
    intro a b ha hab hb hd hl hu
    have e : rootTop m = b := root_unique h0 h1 (by omega) (by
      have : b - 1 = a := by omega
      rw [this]
      rcases hl with hl | hl
      · subst hl; omega
      · exact hl) hu
    refine Ev.step (f := fun _ => some b) (fun k => ?_) (e ▸ Ev.now _)
    simp only [haulierref01_Root.l0]
    rw [w64 (by omega) (by omega), if_neg (by omega)]
  | succ d ih =>
    intro a b ha hab hb hd hl hu
    by_cases hdone : b - a ≤ 1
    · have e : rootTop m = b := root_unique h0 h1 (by omega) (by
        have : b - 1 = a := by omega
        rw [this]
        rcases hl with hl | hl
        · subst hl; omega
        · exact hl) hu
      refine Ev.step (f := fun _ => some b) (fun k => ?_) (e ▸ Ev.now _)
      simp only [haulierref01_Root.l0]
      rw [w64 (by omega) (by omega), if_neg (by omega)]
    · have em : wrap64 (Int.tdiv (wrap64 (a + b)) 2) = (a + b) / 2 := by
        rw [w64 (x := a + b) (by omega) (by omega), Int.tdiv_eq_ediv_of_nonneg (by omega), w64 (by omega) (by omega)]
      obtain ⟨c, hc⟩ : ∃ c, (a + b) / 2 = c := ⟨_, rfl⟩
      have hc1 : a < c := by omega
      have hc2 : c < b := by omega
      have hsq := sq_lt (a := c) (b := 1073741824) (by omega) (by omega)
      have hsq0 := sq_lt (a := 0) (b := c) (by omega) (by omega)
      by_cases hge : c * c ≥ m
      · refine Ev.step (fun k => ?_) (ih a c ha hc1 (by omega) (by omega) hl hge)
        simp only [haulierref01_Root.l0]
        rw [w64 (x := b - a) (by omega) (by omega), if_pos (by omega), em, hc, w64 (x := c * c) (by omega) (by omega), if_pos hge]
      · refine Ev.step (fun k => ?_) (ih c b (by omega) hc2 hb (by omega) (.inr (by omega)) hu)
        simp only [haulierref01_Root.l0]
        rw [w64 (x := b - a) (by omega) (by omega), if_pos (by omega), em, hc, w64 (x := c * c) (by omega) (by omega), if_neg hge]
theorem refroot_ev (n : Int) : Ev (fun k => haulierref01_Root.f k n) (rootTop (capS n)) := by
  unfold haulierref01_Root.f
  by_cases h : n < 1
  · rw [rootTop_zero (capS_low h)]
    simp only [if_pos h]; exact Ev.now _
  · simp only [if_neg h]
    have key : ∀ m : Int, 0 < m → m ≤ 1152921504606846976 → Ev (fun k => haulierref01_Root.j0 k m) (rootTop m) := by
      intro m h0 h1
      refine Ev.step (fun k => ?_) (refroot_loop m h0 h1 1073741824 0 1073741824 (by omega) (by omega) (by omega) (by omega) (.inl rfl) (by omega))
      simp only [haulierref01_Root.j0]
    by_cases h2 : n > 1152921504606846976
    · have e := capS_big h2
      simp only [if_pos h2]; rw [e]; exact key _ (by omega) (by omega)
    · rw [capS_in (by omega) (by omega)]
      simp only [if_neg h2]; exact key _ (by omega) (by omega)

theorem bound_eq (x : Int) : haulierref06_bound.f x = some (coordP x) := by
  unfold haulierref06_bound.f coordP mn mx
  by_cases h1 : x < 0
  · rw [if_pos h1, if_pos h1, if_neg (by omega)]
  · rw [if_neg h1, if_neg h1]
    by_cases h2 : x > 10000
    · rw [if_pos h2, if_pos (by omega)]
    · rw [if_neg h2, if_neg (by omega)]
theorem rfar_ev (a0 a1 a2 a3 a4 a5 b0 b1 b2 b3 b4 b5 : Int) : Ev (fun k => haulierref06_Far.f k a0 a1 a2 a3 a4 a5 b0 b1 b2 b3 b4 b5) (farZ a0 a1 b0 b1) := by
  have h := sqD_bd a0 a1 b0 b1
  have c1 := coordP_bd a0; have c2 := coordP_bd a1; have c3 := coordP_bd b0; have c4 := coordP_bd b1
  have hx := sq_bd4 (x := coordP a0 - coordP b0) (by omega) (by omega)
  have hy := sq_bd4 (x := coordP a1 - coordP b1) (by omega) (by omega)
  refine Ev.congr (f := fun k => (haulierref01_Root.f k (sqD a0 a1 b0 b1)).bind fun t => some t) (fun k => ?_) ?_
  · simp only [haulierref06_Far.f, bound_eq, Option.bind_some]
    rw [w64 (x := coordP a0 - coordP b0) (by omega) (by omega), w64 (x := coordP a1 - coordP b1) (by omega) (by omega), w64 (x := (coordP a0 - coordP b0) * (coordP a0 - coordP b0)) (by omega) (by omega), w64 (x := (coordP a1 - coordP b1) * (coordP a1 - coordP b1)) (by omega) (by omega), w64 (by omega) (by omega)]
    rfl
  · refine Ev.bind (refroot_ev _) ?_
    rw [capS_in h.1 (by omega)]
    exact Ev.now _
def farS (a b : St) : Int := farZ a.f0 a.f1 b.f0 b.f1
def matS (l : List St) : List (List Int) := l.map fun a => l.map fun b => farS a b
theorem farS_bd (a b : St) : 0 ≤ farS a b ∧ farS a b ≤ 14143 := ⟨(farZ_spec _ _ _ _).1, (farZ_spec _ _ _ _).2.1⟩
theorem mat_len (l : List St) : (matS l).length = l.length := by simp [matS]
theorem mat_row {l : List St} {i : Nat} (h : i < l.length) : rd_L2 (matS l) (i : Int) = l.map fun b => farS l[i] b := by
  unfold rd_L2 matS; simp [List.getD, List.getElem?_eq_getElem h]
theorem mat_at {l : List St} {i j : Nat} (h : i < l.length) (h' : j < l.length) : rd (rd_L2 (matS l) (i : Int)) (j : Int) = farS l[i] l[j] := by
  rw [mat_row h]; unfold rd; simp [List.getD, List.getElem?_eq_getElem h']
theorem take_map_succ {α β : Type} (f : α → β) (l : List α) {i : Nat} (h : i < l.length) : (l.take (i + 1)).map f = (l.take i).map f ++ [f l[i]] := by
  rw [List.take_succ_eq_append_getElem h, List.map_append]; rfl
theorem pmat_row (p c r : Int) (l : List St) (hl : l.length ≤ 1000) (m : List (List Int)) (a : St) (i : Int) (R : List (List Int)) (hm : m.length ≤ 1000)
    (hgo : Ev (fun k => plane_Matrix.l0 k (m ++ [l.map fun b => farS a b]) l (l.length : Int) (wrap64 (i + 1)) p c r l) R) : ∀ (d j : Nat), j + d = l.length →
    Ev (fun k => plane_Matrix.l1 k m ((l.take j).map fun b => farS a b) l (l.length : Int) i l (l.length : Int) (j : Int) p c r l a.f0 a.f1 a.f2 a.f3 a.f4 a.f5) R := by
  intro d
  induction d with
  | zero =>
    intro j hj
    refine Ev.step (fun k => ?_) hgo
    simp only [plane_Matrix.l1]
    rw [if_neg (by omega), if_pos (by omega), List.take_of_length_le (by omega)]
  | succ d ih =>
    intro j hj
    have hlt : j < l.length := by omega
    refine Ev.step (fun k => ?_) (ih (j + 1) (by omega))
    simp only [plane_Matrix.l1, far_f, Option.bind_some]
    rw [if_pos (by omega), if_pos (by omega), if_pos (by omega), rdS_at hlt, if_pos (by simp; omega), w_next hlt (by omega), take_map_succ _ _ hlt]
    rfl
theorem pmat_loop (p c r : Int) (l : List St) (hl : l.length ≤ 1000) : ∀ (d i : Nat), i + d = l.length →
    Ev (fun k => plane_Matrix.l0 k ((l.take i).map fun a => l.map fun b => farS a b) l (l.length : Int) (i : Int) p c r l) (matS l) := by
  intro d
  induction d with
  | zero =>
    intro i hi
    refine Ev.step (f := fun _ => some (matS l)) (fun k => ?_) (Ev.now _)
    simp only [plane_Matrix.l0]
    rw [if_neg (by omega), List.take_of_length_le (by omega)]; rfl
  | succ d ih =>
    intro i hi
    have hlt : i < l.length := by omega
    have h := ih (i + 1) (by omega)
    rw [take_map_succ _ _ hlt, ← w_next hlt (by omega)] at h
    refine Ev.step (fun k => ?_) (pmat_row p c r l hl _ l[i] (i : Int) (matS l) (by simp; omega) h l.length 0 (by omega))
    simp only [plane_Matrix.l0]
    rw [if_pos (by omega), if_pos (by omega), if_pos (by omega), rdS_at hlt]
    simp
def matI (p c r : Int) (l : List St) : List (List Int) := if mayB p c r l = true then matS l else []
theorem pmat_ev (p c r : Int) (l : List St) (hl : l.length ≤ 1000) : Ev (fun k => plane_Matrix.f k p c r l) (matI p c r l) := by
  refine Ev.bind (may_ev p c r l) ?_
  unfold matI
  by_cases h : mayB p c r l = true
  · rw [h]; simp only [if_true]
    simpa using pmat_loop p c r l hl l.length 0 (by omega)
  · rw [Bool.eq_false_iff.mpr h]; simp only [Bool.false_eq_true, if_false]; exact Ev.now _
theorem rmat_row (p c r : Int) (l : List St) (hl : l.length ≤ 1000) (m : List (List Int)) (i : Nat) (hlti : i < l.length) (R : List (List Int)) (hm : m.length ≤ 1000)
    (hgo : Ev (fun k => haulierref06_Matrix.l0 k (m ++ [l.map fun b => farS l[i] b]) (wrap64 ((i : Int) + 1)) p c r l) R) : ∀ (d j : Nat), j + d = l.length →
    Ev (fun k => haulierref06_Matrix.l1 k m (i : Int) ((l.take j).map fun b => farS l[i] b) (j : Int) p c r l) R := by
  intro d
  induction d with
  | zero =>
    intro j hj
    refine Ev.step (fun k => ?_) hgo
    simp only [haulierref06_Matrix.l1]
    rw [if_neg (by omega), if_pos (by omega), List.take_of_length_le (by omega)]
  | succ d ih =>
    intro j hj
    have hlt : j < l.length := by omega
    refine Ev.step (f := fun k => (haulierref06_Far.f k l[i].f0 l[i].f1 l[i].f2 l[i].f3 l[i].f4 l[i].f5 l[j].f0 l[j].f1 l[j].f2 l[j].f3 l[j].f4 l[j].f5).bind fun t => haulierref06_Matrix.l1 k m (i : Int) (((l.take j).map fun b => farS l[i] b) ++ [t]) ((j + 1 : Nat) : Int) p c r l) (fun k => ?_) (Ev.bind (rfar_ev _ _ _ _ _ _ _ _ _ _ _ _) ?_)
    · simp only [haulierref06_Matrix.l1]
      rw [if_pos (by omega), if_pos (by omega), if_pos (by omega), if_pos (by omega), rdS_at hlti, rdS_at hlt, w_next hlt (by omega)]
      congr 1; funext t
      rw [if_pos (by simp; omega)]
    · have := ih (j + 1) (by omega)
      rw [take_map_succ _ _ hlt] at this
      exact this
theorem rmat_loop (p c r : Int) (l : List St) (hl : l.length ≤ 1000) : ∀ (d i : Nat), i + d = l.length →
    Ev (fun k => haulierref06_Matrix.l0 k ((l.take i).map fun a => l.map fun b => farS a b) (i : Int) p c r l) (matS l) := by
  intro d
  induction d with
  | zero =>
    intro i hi
    refine Ev.step (f := fun _ => some (matS l)) (fun k => ?_) (Ev.now _)
    simp only [haulierref06_Matrix.l0]
    rw [if_neg (by omega), List.take_of_length_le (by omega)]; rfl
  | succ d ih =>
    intro i hi
    have hlt : i < l.length := by omega
    have h := ih (i + 1) (by omega)
    rw [take_map_succ _ _ hlt, ← w_next hlt (by omega)] at h
    refine Ev.step (fun k => ?_) (rmat_row p c r l hl _ i hlt (matS l) (by simp; omega) h l.length 0 (by omega))
    simp only [haulierref06_Matrix.l0]
    rw [if_pos (by omega)]
    simp
theorem rmat_ev (p c r : Int) (l : List St) (hl : l.length ≤ 1000) : Ev (fun k => haulierref06_Matrix.f k p c r l) (matI p c r l) := by
  refine Ev.bind (rmay_ev p c r l) ?_
  unfold matI
  by_cases h : mayB p c r l = true
  · rw [h]; simp only [if_true]
    simpa using rmat_loop p c r l hl l.length 0 (by omega)
  · rw [Bool.eq_false_iff.mpr h]; simp only [Bool.false_eq_true, if_false]; exact Ev.now _
/-- The least of a column's first entries, but for one row; 2^60 if there is none. -/
def colM (l : List St) (k : Nat) : Nat → Int
  | 0 => 1152921504606846976
  | i + 1 => if i = k then colM l k i else mn (colM l k i) (farS (l.getD i z23) (l.getD k z23))
def nearV (l : List St) (k : Nat) : Int := if l.length ≤ 1 then 0 else colM l k l.length
def nearS (l : List St) : List Int := (List.range l.length).map fun k => nearV l k
theorem getD_at {l : List St} {i : Nat} (h : i < l.length) : l.getD i z23 = l[i] := by simp [List.getD, List.getElem?_eq_getElem h]
/-- Is a row among the first ones that is not the k-th? -/
def some_ (k i : Nat) : Prop := 1 ≤ i ∧ ¬ (k = 0 ∧ i = 1)
theorem colM_lo (l : List St) (k : Nat) : ∀ i, 0 ≤ colM l k i := by
  intro i
  induction i with
  | zero => simp [colM]
  | succ i ih =>
    simp only [colM]
    split
    · exact ih
    · have := (farS_bd (l.getD i z23) (l.getD k z23)).1
      unfold mn; split <;> omega
theorem colM_none (l : List St) (k i : Nat) (h : ¬ some_ k i) : colM l k i = 1152921504606846976 := by
  unfold some_ at h
  match i, h with
  | 0, _ => rfl
  | 1, h => have : k = 0 := by omega
            subst this; simp [colM]
  | i + 2, h => omega
theorem colM_some (l : List St) (k : Nat) : ∀ i, some_ k i → colM l k i ≤ 14143 := by
  intro i
  induction i with
  | zero => intro h; exact absurd h.1 (by omega)
  | succ i ih =>
    intro h
    simp only [colM]
    by_cases e : i = k
    · rw [if_pos e]
      refine ih ⟨?_, ?_⟩
      · have := h.2; omega
      · have := h.2; omega
    · rw [if_neg e]
      have := (farS_bd (l.getD i z23) (l.getD k z23)).2
      unfold mn; split <;> omega
theorem colM_le (l : List St) (k : Nat) : ∀ i j, j < i → j ≠ k → colM l k i ≤ farS (l.getD j z23) (l.getD k z23) := by
  intro i
  induction i with
  | zero => intro j h; omega
  | succ i ih =>
    intro j hj hk
    simp only [colM]
    by_cases e : i = k
    · rw [if_pos e]; exact ih j (by omega) hk
    · rw [if_neg e]
      by_cases ej : j = i
      · subst ej; unfold mn; split <;> omega
      · have := ih j (by omega) hk
        unfold mn; split <;> omega
theorem colM_hit (l : List St) (k : Nat) : ∀ i, some_ k i → ∃ j, j < i ∧ j ≠ k ∧ colM l k i = farS (l.getD j z23) (l.getD k z23) := by
  intro i
  induction i with
  | zero => intro h; exact absurd h.1 (by omega)
  | succ i ih =>
    intro h
    simp only [colM]
    by_cases e : i = k
    · rw [if_pos e]
      obtain ⟨j, h1, h2, h3⟩ := ih ⟨by have := h.2; omega, by have := h.2; omega⟩
      exact ⟨j, by omega, h2, h3⟩
    · rw [if_neg e]
      by_cases hs : some_ k i
      · obtain ⟨j, h1, h2, h3⟩ := ih hs
        by_cases hlt : farS (l.getD i z23) (l.getD k z23) < colM l k i
        · exact ⟨i, by omega, e, by unfold mn; rw [if_pos hlt]⟩
        · exact ⟨j, by omega, h2, by unfold mn; rw [if_neg hlt]; exact h3⟩
      · have := colM_none l k i hs
        have hb := (farS_bd (l.getD i z23) (l.getD k z23)).2
        exact ⟨i, by omega, e, by unfold mn; rw [if_pos (by omega)]⟩
theorem near_tmod (l : List St) (k : Nat) (hk : k < l.length) : Int.tmod (colM l k l.length) 1152921504606846976 = nearV l k := by
  unfold nearV
  by_cases h : l.length ≤ 1
  · rw [if_pos h, colM_none l k l.length (by unfold some_; omega)]; rfl
  · rw [if_neg h]
    have h1 := colM_some l k l.length (by unfold some_; omega)
    have h0 := colM_lo l k l.length
    rw [Int.tmod_eq_of_lt h0 (by omega)]
theorem range_snoc {β : Type} (f : Nat → β) (k : Nat) : (List.range (k + 1)).map f = (List.range k).map f ++ [f k] := by rw [List.range_succ]; simp
theorem pnear_col (l : List St) (hl : l.length ≤ 1000) (acc : List Int) (k : Nat) (hk : k < l.length) (R : List Int) (hacc : acc.length ≤ 1000)
    (hgo : Ev (fun q => plane_Near.l0 q (matS l) (acc ++ [nearV l k]) (l.length : Int) (wrap64 ((k : Int) + 1))) R) : ∀ (d i : Nat), i + d = l.length →
    Ev (fun q => plane_Near.l1 q (matS l) acc (k : Int) (colM l k i) (l.length : Int) (k : Int) (l.length : Int) (i : Int)) R := by
  intro d
  induction d with
  | zero =>
    intro i hi
    obtain rfl : i = l.length := by omega
    refine Ev.step (fun q => ?_) hgo
    simp only [plane_Near.l1]
    rw [if_neg (by omega), if_pos (by omega), near_tmod l k hk]
  | succ d ih =>
    intro i hi
    have hlt : i < l.length := by omega
    have h := ih (i + 1) (by omega)
    simp only [colM] at h
    by_cases e : i = k
    · rw [if_pos e] at h
      refine Ev.step (fun q => ?_) h
      simp only [plane_Near.l1]
      rw [if_pos (by omega), if_pos (by omega), w_next hlt (by omega)]
    · rw [if_neg e] at h
      refine Ev.step (fun q => ?_) h
      simp only [plane_Near.l1]
      rw [if_pos (by omega), if_neg (by omega), if_pos (by omega), if_pos (by rw [mat_len]; omega), if_pos (by omega), if_pos (by rw [mat_row hlt]; simp; omega), mat_at hlt hk, w_next hlt (by omega), getD_at hlt, getD_at hk]
theorem pnear_loop (l : List St) (hl : l.length ≤ 1000) : ∀ (d k : Nat), k + d = l.length →
    Ev (fun q => plane_Near.l0 q (matS l) ((List.range k).map fun j => nearV l j) (l.length : Int) (k : Int)) (nearS l) := by
  intro d
  induction d with
  | zero =>
    intro k hk
    obtain rfl : k = l.length := by omega
    refine Ev.step (f := fun _ => some (nearS l)) (fun q => ?_) (Ev.now _)
    simp only [plane_Near.l0]
    rw [if_neg (by omega)]; rfl
  | succ d ih =>
    intro k hk
    have hlt : k < l.length := by omega
    have h := ih (k + 1) (by omega)
    rw [range_snoc, ← w_next hlt (by omega)] at h
    refine Ev.step (fun q => ?_) (pnear_col l hl _ k hlt (nearS l) (by simp; omega) h l.length 0 (by omega))
    simp only [plane_Near.l0]
    rw [if_pos (by omega), mat_len]
    rfl
def nearI (p c r : Int) (l : List St) : List Int := if mayB p c r l = true then nearS l else []
theorem pnear_ev (p c r : Int) (l : List St) (hl : l.length ≤ 1000) : Ev (fun k => plane_Near.f k p c r l) (nearI p c r l) := by
  refine Ev.bind (pmat_ev p c r l hl) ?_
  unfold matI nearI
  by_cases h : mayB p c r l = true
  · rw [if_pos h, if_pos h, mat_len]
    simpa using pnear_loop l hl l.length 0 (by omega)
  · rw [if_neg h, if_neg h]
    refine Ev.step (f := fun _ => some []) (fun k => ?_) (Ev.now _)
    simp [plane_Near.l0]
/-- What the reference holds as the least so far. -/
def refM (l : List St) (k i : Nat) : Int := if 1 ≤ i ∧ ¬ (k = 0 ∧ i = 1) then colM l k i else 0
theorem rnear_col (l : List St) (hl : l.length ≤ 1000) (acc : List Int) (k : Nat) (hk : k < l.length) (R : List Int) (hacc : acc.length ≤ 1000)
    (hgo : Ev (fun q => haulierref06_Near.l0 q (matS l) (acc ++ [nearV l k]) (wrap64 ((k : Int) + 1))) R) : ∀ (d i : Nat), i + d = l.length →
    Ev (fun q => haulierref06_Near.l1 q (matS l) acc (k : Int) (refM l k i) (i : Int)) R := by
  intro d
  induction d with
  | zero =>
    intro i hi
    obtain rfl : i = l.length := by omega
    have e : refM l k l.length = nearV l k := by
      unfold refM nearV
      by_cases h : l.length ≤ 1
      · rw [if_pos h, if_neg (by omega)]
      · rw [if_neg h, if_pos (by omega)]
    refine Ev.step (fun q => ?_) hgo
    simp only [haulierref06_Near.l1]
    rw [if_neg (by rw [mat_len]; omega), if_pos (by omega), e]
  | succ d ih =>
    intro i hi
    have hlt : i < l.length := by omega
    have h := ih (i + 1) (by omega)
    have hml : ((matS l).length : Int) = (l.length : Int) := by rw [mat_len]
    have hrl : ((rd_L2 (matS l) (i : Int)).length : Int) = (l.length : Int) := by rw [mat_row hlt]; simp
    have take : ∀ b : Bool, (b = true → refM l k (i + 1) = farS l[i] l[k]) → (b = false → refM l k (i + 1) = refM l k i) → Ev (fun q => haulierref06_Near.j2 q (matS l) acc (k : Int) (refM l k i) (i : Int) b) R := fun b h1 h2 => by
      cases b with
      | true =>
        refine Ev.step (fun q => ?_) h
        simp only [haulierref06_Near.j2, if_true]
        rw [if_pos (by omega), if_pos (by omega), if_pos (by omega), if_pos (by omega), mat_at hlt hk, w_next hlt (by omega), h1 rfl]
      | false =>
        refine Ev.step (fun q => ?_) h
        simp only [haulierref06_Near.j2]
        rw [if_neg (by decide), w_next hlt (by omega), h2 rfl]
    have hs : refM l k (i + 1) = if i = k then refM l k i else if i = 0 ∨ (k = 0 ∧ i = 1) then farS l[i] l[k] else mn (refM l k i) (farS l[i] l[k]) := by
      unfold refM
      by_cases e : i = k
      · rw [if_pos e]
        by_cases h0 : k = 0
        · rw [if_neg (by omega), if_neg (by omega)]
        · rw [if_pos (by omega), if_pos (by omega)]; simp only [colM]; rw [if_pos e]
      · rw [if_neg e]
        have hb := farS_bd l[i] l[k]
        by_cases hz : i = 0 ∨ (k = 0 ∧ i = 1)
        · rw [if_pos hz, if_pos (by omega)]
          simp only [colM]
          rw [if_neg e, getD_at hlt, getD_at hk, colM_none l k i (by unfold some_; omega)]
          unfold mn; rw [if_pos (by omega)]
        · rw [if_neg hz, if_pos (by omega), if_pos (by omega)]
          simp only [colM]
          rw [if_neg e, getD_at hlt, getD_at hk]
    by_cases e : i = k
    · rw [if_pos e] at hs
      refine Ev.step (fun q => ?_) (take false (fun h => by cases h) (fun _ => hs))
      simp only [haulierref06_Near.l1]
      rw [if_pos (by omega), if_pos (by omega)]
    · rw [if_neg e] at hs
      by_cases h0 : i = 0
      · rw [if_pos (.inl h0)] at hs
        refine Ev.step (fun q => ?_) (take true (fun _ => hs) (fun h => by cases h))
        simp only [haulierref06_Near.l1]
        rw [if_pos (by omega), if_neg (by omega), if_pos (by omega)]
      · have cmp : ¬ (k = 0 ∧ i = 1) → Ev (fun q => haulierref06_Near.j2 q (matS l) acc (k : Int) (refM l k i) (i : Int) (decide (farS l[i] l[k] < refM l k i))) R := fun hz => by
          rw [if_neg (by omega)] at hs
          refine take _ (fun h => ?_) (fun h => ?_)
          · have := of_decide_eq_true h; rw [hs]; unfold mn; rw [if_pos this]
          · have := of_decide_eq_false h; rw [hs]; unfold mn; rw [if_neg this]
        by_cases hk0 : k = 0
        · by_cases h1 : i = 1
          · rw [if_pos (.inr ⟨hk0, h1⟩)] at hs
            refine Ev.step (fun q => ?_) (take true (fun _ => hs) (fun h => by cases h))
            simp only [haulierref06_Near.l1]
            rw [if_pos (by omega), if_neg (by omega), if_neg (by omega), if_pos (by omega), if_pos (by omega)]
          · refine Ev.step (fun q => ?_) (cmp (by omega))
            simp only [haulierref06_Near.l1]
            rw [if_pos (by omega), if_neg (by omega), if_neg (by omega), if_pos (by omega), if_neg (by omega), if_pos (by omega), if_pos (by omega), if_pos (by omega), mat_at hlt hk]
        · refine Ev.step (fun q => ?_) (cmp (by omega))
          simp only [haulierref06_Near.l1]
          rw [if_pos (by omega), if_neg (by omega), if_neg (by omega), if_neg (by omega), if_pos (by omega), if_pos (by omega), if_pos (by omega), mat_at hlt hk]
theorem rnear_loop (l : List St) (hl : l.length ≤ 1000) : ∀ (d k : Nat), k + d = l.length →
    Ev (fun q => haulierref06_Near.l0 q (matS l) ((List.range k).map fun j => nearV l j) (k : Int)) (nearS l) := by
  intro d
  induction d with
  | zero =>
    intro k hk
    obtain rfl : k = l.length := by omega
    refine Ev.step (f := fun _ => some (nearS l)) (fun q => ?_) (Ev.now _)
    simp only [haulierref06_Near.l0]
    rw [if_neg (by rw [mat_len]; omega)]; rfl
  | succ d ih =>
    intro k hk
    have hlt : k < l.length := by omega
    have h := ih (k + 1) (by omega)
    rw [range_snoc, ← w_next hlt (by omega)] at h
    refine Ev.step (fun q => ?_) (rnear_col l hl _ k hlt (nearS l) (by simp; omega) h l.length 0 (by omega))
    simp only [haulierref06_Near.l0]
    rw [if_pos (by rw [mat_len]; omega)]
    rfl
theorem rnear_ev (p c r : Int) (l : List St) (hl : l.length ≤ 1000) : Ev (fun k => haulierref06_Near.f k p c r l) (nearI p c r l) := by
  refine Ev.bind (rmat_ev p c r l hl) ?_
  unfold matI nearI
  by_cases h : mayB p c r l = true
  · rw [if_pos h, if_pos h]
    simpa using rnear_loop l hl l.length 0 (by omega)
  · rw [if_neg h, if_neg h]
    refine Ev.step (f := fun _ => some []) (fun k => ?_) (Ev.now _)
    simp [haulierref06_Near.l0]
theorem same2_refl (x : List Int) (hx : x.length ≤ 10000) : Ev (fun k => haulierref02_Same.f k x x) true := by
  have h : ∀ (d i : Nat), i + d = x.length → Ev (fun k => haulierref02_Same.l0 k x x (i : Int)) true := by
    intro d
    induction d with
    | zero =>
      intro i hi
      refine Ev.step (f := fun _ => some true) (fun k => ?_) (Ev.now _)
      simp only [haulierref02_Same.l0]; rw [if_neg (by omega)]
    | succ d ih =>
      intro i hi
      refine Ev.step (fun k => ?_) (ih (i + 1) (by omega))
      simp only [haulierref02_Same.l0]; rw [if_pos (by omega), if_pos (by omega), if_pos (by omega), if_pos trivial, w_next (n := x.length) (by omega) (by omega)]
  refine Ev.congr (f := fun k => haulierref02_Same.l0 k x x ((0 : Nat) : Int)) (fun k => ?_) (h x.length 0 (by omega))
  simp only [haulierref02_Same.f]; rw [if_pos trivial]; rfl
theorem same4_l1 (x : List (List Int)) (hx : x.length ≤ 10000) (hy : ∀ l ∈ x, l.length ≤ 100000) (i : Nat) (hi : i < x.length) (hnext : Ev (fun k => haulierref04_Same.l0 k x x ((i + 1 : Nat) : Int)) true) : ∀ (d j : Nat), j + d = (rd_L2 x (i : Int)).length → Ev (fun k => haulierref04_Same.l1 k x x (i : Int) (j : Int)) true := by
  have hm : rd_L2 x (i : Int) = x[i] := by simp [rd_L2, List.getD, List.getElem?_eq_getElem hi]
  have hb : (rd_L2 x (i : Int)).length ≤ 100000 := by rw [hm]; exact hy _ (List.getElem_mem hi)
  intro d
  induction d with
  | zero =>
    intro j hj
    refine Ev.step (f := fun k => haulierref04_Same.l0 k x x ((i + 1 : Nat) : Int)) (fun k => ?_) hnext
    simp only [haulierref04_Same.l1]
    rw [if_pos (by omega), if_pos (by omega), if_neg (by omega), w64 (by omega) (by omega)]; rfl
  | succ d ih =>
    intro j hj
    refine Ev.step (f := fun k => haulierref04_Same.l1 k x x (i : Int) ((j + 1 : Nat) : Int)) (fun k => ?_) (ih (j + 1) (by omega))
    simp only [haulierref04_Same.l1]
    rw [if_pos (by omega), if_pos (by omega), if_pos (by omega), if_pos (by omega), if_pos (by omega), if_pos (by omega), if_pos trivial, w64 (by omega) (by omega)]; rfl
theorem same4_refl (x : List (List Int)) (hx : x.length ≤ 10000) (hy : ∀ l ∈ x, l.length ≤ 100000) : Ev (fun k => haulierref04_Same.f k x x) true := by
  have h : ∀ (d i : Nat), i + d = x.length → Ev (fun k => haulierref04_Same.l0 k x x (i : Int)) true := by
    intro d
    induction d with
    | zero =>
      intro i hi
      refine Ev.step (f := fun _ => some true) (fun k => ?_) (Ev.now _)
      simp only [haulierref04_Same.l0]; rw [if_neg (by omega)]
    | succ d ih =>
      intro i hi
      refine Ev.step (f := fun k => haulierref04_Same.l1 k x x (i : Int) ((0 : Nat) : Int)) (fun k => ?_) (same4_l1 x hx hy i (by omega) (ih (i + 1) (by omega)) (rd_L2 x (i : Int)).length 0 (by omega))
      simp only [haulierref04_Same.l0]; rw [if_pos (by omega), if_pos (by omega), if_pos (by omega), if_pos trivial]; rfl
  refine Ev.congr (f := fun k => haulierref04_Same.l0 k x x ((0 : Nat) : Int)) (fun k => ?_) (h x.length 0 (by omega))
  simp only [haulierref04_Same.f]; rw [if_pos trivial]; rfl
theorem mat_same (p c r : Int) (l : List St) (hl : l.length ≤ 1000) : Ev (fun k => haulierref04_Same.f k (matI p c r l) (matI p c r l)) true := by
  refine same4_refl _ ?_ ?_
  · unfold matI; split
    · rw [mat_len]; omega
    · simp
  · unfold matI; split
    · intro q hq; simp only [matS, List.mem_map] at hq; obtain ⟨a, _, rfl⟩ := hq; simp; omega
    · simp
theorem near_same (p c r : Int) (l : List St) (hl : l.length ≤ 1000) : Ev (fun k => haulierref02_Same.f k (nearI p c r l) (nearI p c r l)) true := by
  refine same2_refl _ ?_
  unfold nearI; split
  · simp [nearS]; omega
  · simp
end Go.Proofs.Ytjiammiihamkiaa.Plane
