/- The matrix of an instance of at most 33 stops, one of whose windows and whose room are others, is the same. -/
import Derived.Test.YtjiammiihamkiaaDefPlaneSame
import Derived.Test.YtjiammiihamkiaaPlaneBase
namespace Go.Proofs.Ytjiammiihamkiaa.Pure
open Go.RowKit Go.Proofs.Ytjiammiihamkiaa.PA Go.Proofs.YtjiammiihamkiaaW.PrintWords Go.Proofs.YtjiammiihamkiaaW.PrintLast Go.Proofs.Ytjiammiihamkiaa.Inst Go.Proofs.Ytjiammiihamkiaa.Plane
theorem matS_set (l : List St) (i : Nat) (h : i < l.length) (due : Int) : matS (l.set i ⟨l[i].f0, l[i].f1, l[i].f2, l[i].f3, due, l[i].f5⟩) = matS l := by
  have hg : ∀ (f : St → Int × Int), (∀ a b : St, a.f0 = b.f0 → a.f1 = b.f1 → f a = f b) → True := fun _ _ => trivial
  have key : (l.set i ⟨l[i].f0, l[i].f1, l[i].f2, l[i].f3, due, l[i].f5⟩).map (fun a : St => (a.f0, a.f1)) = l.map (fun a : St => (a.f0, a.f1)) := by
    apply List.ext_getElem
    · simp
    · intro j h1 h2
      simp only [List.getElem_map, List.getElem_set]
      by_cases e : i = j
      · subst e; simp
      · simp [e]
  have e : ∀ m : List St, matS m = (m.map fun a : St => (a.f0, a.f1)).map fun u => (m.map fun a : St => (a.f0, a.f1)).map fun v => Go.Proofs.Ytjiammiihamkiaa.Num.farZ u.1 u.2 v.1 v.2 := by
    intro m; unfold matS farS; simp [List.map_map, Function.comp_def]
  rw [e, e, key]
theorem nearS_set (l : List St) (i : Nat) (h : i < l.length) (due : Int) : nearS (l.set i ⟨l[i].f0, l[i].f1, l[i].f2, l[i].f3, due, l[i].f5⟩) = nearS l := by
  have hxy : ∀ j, ((l.set i ⟨l[i].f0, l[i].f1, l[i].f2, l[i].f3, due, l[i].f5⟩).getD j z23).f0 = (l.getD j z23).f0 ∧ ((l.set i ⟨l[i].f0, l[i].f1, l[i].f2, l[i].f3, due, l[i].f5⟩).getD j z23).f1 = (l.getD j z23).f1 := by
    intro j
    simp only [List.getD_eq_getElem?_getD, List.getElem?_set]
    by_cases e : i = j
    · subst e; simp [h]
    · simp [e]
  have hc : ∀ k n, colM (l.set i ⟨l[i].f0, l[i].f1, l[i].f2, l[i].f3, due, l[i].f5⟩) k n = colM l k n := by
    intro k n
    induction n with
    | zero => rfl
    | succ n ih =>
      simp only [colM, ih, farS, (hxy n).1, (hxy n).2, (hxy k).1, (hxy k).2]
  unfold nearS nearV
  simp only [List.length_set, hc]
set_option maxHeartbeats 4000000 in
theorem PlaneSame : haulierlaw06_PlaneSame.Claim := by
  intro x i due _ _ _
  obtain ⟨p, c, r, l⟩ := x
  dsimp only
  suffices h : Ev (fun k => haulierlaw06_PlaneSame.f k p c r l i due) true from h.rounds
  have out : Ev (fun k => haulierlaw06_PlaneSame.j0 k i due true true p c r l) true := Ev.step (f := fun _ => some true) (fun k => by simp [haulierlaw06_PlaneSame.j0]) (Ev.now _)
  refine Ev.congr (f := fun k => (inst_May.f k p c r l).bind fun t263 => (if t263 = true then (if (l.length : Int) > 33 then (haulierlaw06_PlaneSame.j0 k i due true true p c r l) else (if i < 0 then (haulierlaw06_PlaneSame.j0 k i due true true p c r l) else (haulierlaw06_PlaneSame.j0 k i due true (decide (i ≥ (l.length : Int))) p c r l))) else (haulierlaw06_PlaneSame.j0 k i due true true p c r l))) (fun k => ?_) (Ev.bind (may_ev p c r l) ?_)
  · simp only [haulierlaw06_PlaneSame.f, awake06, Option.bind_some, if_true]
  by_cases hm : mayB p c r l = true
  rotate_left
  · rw [Bool.eq_false_iff.mpr hm]; simp only [Bool.false_eq_true, if_false]; exact out
  rw [hm]
  simp only [if_true]
  by_cases h1 : (l.length : Int) > 33
  · simp only [if_pos h1]; exact out
  by_cases h2 : i < 0
  · simp only [if_neg h1, if_pos h2]; exact out
  simp only [if_neg h1, if_neg h2]
  by_cases h3 : i ≥ (l.length : Int)
  · rw [decide_eq_true h3]; exact out
  rw [decide_eq_false h3]
  obtain ⟨n, rfl⟩ : ∃ n : Nat, i = n := ⟨i.toNat, by omega⟩
  have hn : n < l.length := by omega
  have hset : (l.set n ⟨l[n].f0, l[n].f1, l[n].f2, l[n].f3, due, l[n].f5⟩).length ≤ 1000 := by simp; omega
  refine Ev.step (f := fun k => (inst_May.f k p c (wrap64 (r + 1)) (l.set n ⟨l[n].f0, l[n].f1, l[n].f2, l[n].f3, due, l[n].f5⟩)).bind fun t269 => (if t269 = true then ((plane_Matrix.f k p c r l).bind fun t270 => ((plane_Matrix.f k p c (wrap64 (r + 1)) (l.set n ⟨l[n].f0, l[n].f1, l[n].f2, l[n].f3, due, l[n].f5⟩)).bind fun t273 => ((plane_Near.f k p c r l).bind fun t276 => ((plane_Near.f k p c (wrap64 (r + 1)) (l.set n ⟨l[n].f0, l[n].f1, l[n].f2, l[n].f3, due, l[n].f5⟩)).bind fun t279 => ((haulierref04_Same.f k t270 t273).bind fun t282 => ((haulierref02_Same.f k t276 t279).bind fun t283 => (if t282 = true then (if t283 = true then (some ((t270.length : Int) == (l.length : Int))) else (none)) else (none)))))))) else (some true))) (fun k => ?_) (Ev.bind (may_ev p c (wrap64 (r + 1)) _) ?_)
  · simp only [haulierlaw06_PlaneSame.j0, List.nil_append, Option.bind_some]
    rw [if_neg (by decide), if_pos (by simp; omega), if_pos (by omega), if_pos (by omega), rdS_at hn]
    rfl
  by_cases hm2 : mayB p c (wrap64 (r + 1)) (l.set n ⟨l[n].f0, l[n].f1, l[n].f2, l[n].f3, due, l[n].f5⟩) = true
  rotate_left
  · rw [Bool.eq_false_iff.mpr hm2]; simp only [Bool.false_eq_true, if_false]; exact Ev.now _
  rw [hm2]
  simp only [if_true]
  have e1 : matI p c (wrap64 (r + 1)) (l.set n ⟨l[n].f0, l[n].f1, l[n].f2, l[n].f3, due, l[n].f5⟩) = matI p c r l := by unfold matI; rw [if_pos hm, if_pos hm2, matS_set l n hn due]
  have e2 : nearI p c (wrap64 (r + 1)) (l.set n ⟨l[n].f0, l[n].f1, l[n].f2, l[n].f3, due, l[n].f5⟩) = nearI p c r l := by unfold nearI; rw [if_pos hm, if_pos hm2, nearS_set l n hn due]
  have p1 := pmat_ev p c (wrap64 (r + 1)) _ hset
  have p2 := pnear_ev p c (wrap64 (r + 1)) _ hset
  rw [e1] at p1
  rw [e2] at p2
  refine Ev.bind (pmat_ev p c r l (by omega)) (Ev.bind p1 (Ev.bind (pnear_ev p c r l (by omega)) (Ev.bind p2 (Ev.bind (mat_same p c r l (by omega)) (Ev.bind (near_same p c r l (by omega)) ?_)))))
  simp only [if_true]
  have : ((matI p c r l).length : Int) = (l.length : Int) := by unfold matI; rw [if_pos hm, mat_len]
  rw [this, beq_self_eq_true]
  exact Ev.now _
end Go.Proofs.Ytjiammiihamkiaa.Pure
