/- The matrix of an instance of at most 33 stops is as far there as back, and 0 from each stop to itself; to no stop it is less far than from the nearest one, from some it is as far. -/
import Derived.Test.YtjiammiihamkiaaDefPlaneNear
import Derived.Test.YtjiammiihamkiaaPlaneBase
namespace Go.Proofs.Ytjiammiihamkiaa.Pure
open Go.RowKit Go.Proofs.Ytjiammiihamkiaa.PA Go.Proofs.YtjiammiihamkiaaW.PrintWords Go.Proofs.YtjiammiihamkiaaW.PrintLast Go.Proofs.Ytjiammiihamkiaa.Inst Go.Proofs.Ytjiammiihamkiaa.Plane
theorem farS_self (a : St) : farS a a = 0 := (Go.Proofs.Ytjiammiihamkiaa.Num.farZ_zero _ _ _ _).2 ⟨rfl, rfl⟩
theorem farS_comm (a b : St) : farS a b = farS b a := Go.Proofs.Ytjiammiihamkiaa.Num.farZ_comm _ _ _ _
theorem near_at {l : List St} {k : Nat} (h : k < l.length) : rd (nearS l) (k : Int) = nearV l k := by
  unfold rd nearS; simp [List.getD, h]
theorem nearS_len (l : List St) : (nearS l).length = l.length := by simp [nearS]
theorem row_len {l : List St} {i : Nat} (h : i < l.length) : ((rd_L2 (matS l) (i : Int)).length : Int) = (l.length : Int) := by rw [mat_row h]; simp
/-- How far it is, behind a name that nothing looks into. -/
structure RowOf (l : List St) (i : Nat) (F : Nat → Int) (m : Int) : Prop where
  at1 : ∀ k, k < l.length → rd (rd_L2 (matS l) (i : Int)) (k : Int) = F k
  at2 : ∀ k, k < l.length → rd (rd_L2 (matS l) (k : Int)) (i : Int) = F k
  near : rd (nearS l) (i : Int) = m
  least : ∀ k, k < l.length → k ≠ i → m ≤ F k
  len1 : ((rd_L2 (matS l) (i : Int)).length : Int) = (l.length : Int)
  len2 : ∀ k : Nat, k < l.length → ((rd_L2 (matS l) (k : Int)).length : Int) = (l.length : Int)
theorem rowOf (l : List St) (i : Nat) (hi : i < l.length) : RowOf l i (fun k => farS (l.getD k z23) (l.getD i z23)) (nearV l i) where
  at1 k hk := by rw [mat_at hi hk, getD_at hk, getD_at hi]; exact farS_comm _ _
  at2 k hk := by rw [mat_at hk hi, getD_at hk, getD_at hi]
  near := near_at hi
  least k hk hne := by
    unfold nearV
    rw [if_neg (by omega)]
    exact colM_le l i l.length k hk hne
  len1 := row_len hi
  len2 k hk := row_len hk
section
variable (l : List St) (hl : l.length ≤ 33)
include hl
/-- One row held against its column. -/
theorem near_row (i : Nat) (hi : i < l.length) (F : Nat → Int) (m : Int) (hR : RowOf l i F m) (hnext : Ev (fun q => haulierlaw06_PlaneNear.l1 q (matS l) (nearS l) (wrap64 ((i : Int) + 1))) true) :
    ∀ (d k : Nat) (b : Bool), k + d = l.length → (b = false → ∃ j, k ≤ j ∧ j < l.length ∧ j ≠ i ∧ F j = m) →
    Ev (fun q => haulierlaw06_PlaneNear.l2 q (matS l) (nearS l) (i : Int) b (k : Int)) true := by
  have hml : ((matS l).length : Int) = (l.length : Int) := by rw [mat_len]
  have hnl : ((nearS l).length : Int) = (l.length : Int) := by rw [nearS_len]
  have c3 : (i : Int) < ((matS l).length : Int) := by rw [hml]; exact Int.ofNat_lt.mpr hi
  have c2 : 0 ≤ (i : Int) := Int.natCast_nonneg _
  have c7 : (i : Int) < ((nearS l).length : Int) := by rw [hnl]; exact Int.ofNat_lt.mpr hi
  intro d
  induction d with
  | zero =>
    intro k b hk hb
    have hb' : b = true := by
      cases b with
      | true => rfl
      | false =>
        obtain ⟨j, h1, h2, _, _⟩ := hb rfl
        exact absurd h2 (Nat.not_lt.mpr (by rw [← hk]; exact h1))
    subst hb'
    have c1 : ¬ (k : Int) < ((matS l).length : Int) := by rw [hml, ← hk]; exact Int.lt_irrefl _
    refine Ev.step (fun q => ?_) hnext
    simp only [haulierlaw06_PlaneNear.l2]
    rw [if_neg c1, if_pos trivial]
  | succ d ih =>
    intro k b hk hb
    have hlt : k < l.length := by clear hb ih hR hnext; omega
    have hk1 : k + 1 + d = l.length := by clear hb ih hR hnext; omega
    have c1 : (k : Int) < ((matS l).length : Int) := by rw [hml]; exact Int.ofNat_lt.mpr hlt
    have c4 : 0 ≤ (k : Int) := Int.natCast_nonneg _
    have c5 : (k : Int) < ((rd_L2 (matS l) (i : Int)).length : Int) := by rw [hR.len1]; exact Int.ofNat_lt.mpr hlt
    have c6 : (i : Int) < ((rd_L2 (matS l) (k : Int)).length : Int) := by rw [hR.len2 k hlt]; exact Int.ofNat_lt.mpr hi
    have sym : rd (rd_L2 (matS l) (i : Int)) (k : Int) = rd (rd_L2 (matS l) (k : Int)) (i : Int) := by rw [hR.at1 k hlt, hR.at2 k hlt]
    have e1 : wrap64 ((k : Int) + 1) = ((k + 1 : Nat) : Int) := w_next hlt (Nat.le_trans hl (by decide))
    have hge : i ≠ k → decide (rd (rd_L2 (matS l) (k : Int)) (i : Int) < rd (nearS l) (i : Int)) = false := fun hne => by
      rw [hR.at2 k hlt, hR.near]
      exact decide_eq_false (Int.not_lt.mpr (hR.least k hlt (fun h => hne h.symm)))
    have go : Ev (fun q => haulierlaw06_PlaneNear.j6 q (matS l) (nearS l) (i : Int) b (k : Int) false) true := by
      cases b with
      | true =>
        refine Ev.step (fun q => ?_) (ih (k + 1) true hk1 (fun h => by cases h))
        simp only [haulierlaw06_PlaneNear.j6]
        rw [if_neg (by decide), if_pos trivial, e1]
      | false =>
        obtain ⟨j, h1, h2, h3, h4⟩ := hb rfl
        by_cases hik : i = k
        · have n1 : (i : Int) = (k : Int) := by rw [hik]
          refine Ev.step (fun q => ?_) (ih (k + 1) false hk1 (fun _ => ⟨j, ?_, h2, h3, h4⟩))
          · simp only [haulierlaw06_PlaneNear.j6]
            rw [if_neg (by decide), if_neg (by decide), if_pos n1, e1]
          · exact Nat.lt_of_le_of_ne h1 (fun h => h3 (by rw [hik, h]))
        · have n1 : ¬ (i : Int) = (k : Int) := fun h => hik (Int.ofNat.inj h)
          refine Ev.step (fun q => ?_) (ih (k + 1) (rd (rd_L2 (matS l) (k : Int)) (i : Int) == rd (nearS l) (i : Int)) hk1 (fun hf => ?_))
          · simp only [haulierlaw06_PlaneNear.j6]
            rw [if_neg (by decide), if_neg (by decide), if_neg n1, if_pos c4, if_pos c1, if_pos c2, if_pos c6, if_pos c7, e1]
          · rw [hR.at2 k hlt, hR.near] at hf
            refine ⟨j, Nat.lt_of_le_of_ne h1 (fun h => ?_), h2, h3, h4⟩
            rw [← h] at h4
            rw [h4, beq_self_eq_true] at hf
            cases hf
    refine Ev.step (fun q => ?_) go
    simp only [haulierlaw06_PlaneNear.l2]
    rw [if_pos c1, if_pos c2, if_pos c3, if_pos c4, if_pos c5, if_pos c6, if_pos sym]
    by_cases hik : i = k
    · rw [if_pos (show (i : Int) = (k : Int) by rw [hik])]
    · rw [if_neg (show ¬ (i : Int) = (k : Int) from fun h => hik (Int.ofNat.inj h)), if_pos c7, hge hik]
theorem near_rows : ∀ (d i : Nat), i + d = l.length → Ev (fun q => haulierlaw06_PlaneNear.l1 q (matS l) (nearS l) (i : Int)) true := by
  have hml : ((matS l).length : Int) = (l.length : Int) := by rw [mat_len]
  have hnl : ((nearS l).length : Int) = (l.length : Int) := by rw [nearS_len]
  intro d
  induction d with
  | zero =>
    intro i hi
    refine Ev.step (f := fun _ => some true) (fun q => ?_) (Ev.now _)
    simp only [haulierlaw06_PlaneNear.l1]
    rw [if_neg (by omega)]
  | succ d ih =>
    intro i hi
    have hlt : i < l.length := by omega
    have h := ih (i + 1) (by omega)
    rw [← w_next hlt (by omega)] at h
    by_cases h1 : l.length = 1
    · have hv : nearV l i = 0 := by unfold nearV; rw [if_pos (by omega)]
      have hr := near_row l hl i hlt _ _ (rowOf l i hlt) h l.length 0 true (Nat.zero_add _) (fun h => by cases h)
      refine Ev.step (f := fun q => haulierlaw06_PlaneNear.j4 q (matS l) (nearS l) (i : Int) true) (fun q => ?_) (Ev.step (fun q => ?_) hr)
      · simp only [haulierlaw06_PlaneNear.l1]
        rw [if_pos (by omega), if_pos (by omega), if_pos (by omega), if_pos (by omega), near_at hlt, hv]; rfl
      · simp only [haulierlaw06_PlaneNear.j4]; rfl
    · have hle : ¬ l.length ≤ 1 := by clear h; omega
      have hhit := colM_hit l i l.length (by clear h; unfold some_; omega)
      obtain ⟨j, j1, j2, j3⟩ := hhit
      have hr := near_row l hl i hlt _ _ (rowOf l i hlt) h l.length 0 false (Nat.zero_add _) (fun _ => ⟨j, Nat.zero_le _, j1, j2, by unfold nearV; rw [if_neg hle]; exact j3.symm⟩)
      refine Ev.step (f := fun q => haulierlaw06_PlaneNear.j4 q (matS l) (nearS l) (i : Int) false) (fun q => ?_) (Ev.step (fun q => ?_) hr)
      · simp only [haulierlaw06_PlaneNear.l1]
        rw [if_pos (by omega), if_neg (by omega)]
      · simp only [haulierlaw06_PlaneNear.j4]; rfl
theorem near_diag : ∀ (d i : Nat), i + d = l.length → Ev (fun q => haulierlaw06_PlaneNear.l0 q (matS l) (nearS l) (i : Int)) true := by
  have hml : ((matS l).length : Int) = (l.length : Int) := by rw [mat_len]
  intro d
  induction d with
  | zero =>
    intro i hi
    refine Ev.step (fun q => ?_) (near_rows l hl l.length 0 (by omega))
    simp only [haulierlaw06_PlaneNear.l0]
    rw [if_neg (by omega)]; rfl
  | succ d ih =>
    intro i hi
    have hlt : i < l.length := by omega
    have hri := row_len hlt
    refine Ev.step (fun q => ?_) (ih (i + 1) (by omega))
    simp only [haulierlaw06_PlaneNear.l0]
    rw [if_pos (by omega), if_pos (by omega), if_pos (by omega), if_pos (by omega), mat_at hlt hlt, if_pos (farS_self _), w_next hlt (by omega)]
end
theorem PlaneNear : haulierlaw06_PlaneNear.Claim := by
  intro x _
  obtain ⟨p, c, r, l⟩ := x
  dsimp only
  suffices h : Ev (fun k => haulierlaw06_PlaneNear.f k p c r l) true from h.rounds
  have out : Ev (fun k => haulierlaw06_PlaneNear.j0 k true true p c r l) true := Ev.step (f := fun _ => some true) (fun k => by simp [haulierlaw06_PlaneNear.j0]) (Ev.now _)
  by_cases h1 : (l.length : Int) > 33
  · refine Ev.congr (fun k => ?_) out
    simp only [haulierlaw06_PlaneNear.f, awake06, Option.bind_some, if_true]
    rw [if_pos h1]
  refine Ev.congr (f := fun k => (inst_May.f k p c r l).bind fun t240 => haulierlaw06_PlaneNear.j0 k true (!t240) p c r l) (fun k => ?_) (Ev.bind (may_ev p c r l) ?_)
  · simp only [haulierlaw06_PlaneNear.f, awake06, Option.bind_some, if_true]
    rw [if_neg h1]
  by_cases hm : mayB p c r l = true
  rotate_left
  · rw [Bool.eq_false_iff.mpr hm]; exact out
  rw [hm]
  refine Ev.step (f := fun k => (plane_Matrix.f k p c r l).bind fun t241 => ((plane_Near.f k p c r l).bind fun t244 => (if (t241.length : Int) = (l.length : Int) then (haulierlaw06_PlaneNear.j1 k t241 t244 ((t244.length : Int) != (t241.length : Int))) else (haulierlaw06_PlaneNear.j1 k t241 t244 true)))) (fun k => ?_) (Ev.bind (pmat_ev p c r l (by omega)) (Ev.bind (pnear_ev p c r l (by omega)) ?_))
  · simp only [haulierlaw06_PlaneNear.j0]
    rw [if_neg (by decide)]
  unfold matI nearI
  rw [if_pos hm, if_pos hm]
  refine Ev.congr (f := fun k => haulierlaw06_PlaneNear.j1 k (matS l) (nearS l) false) (fun k => ?_) (Ev.step (fun k => ?_) (near_diag l (by omega) l.length 0 (by omega)))
  · rw [if_pos (by rw [mat_len]), mat_len, nearS_len]; simp
  · simp [haulierlaw06_PlaneNear.j1]
end Go.Proofs.Ytjiammiihamkiaa.Pure
