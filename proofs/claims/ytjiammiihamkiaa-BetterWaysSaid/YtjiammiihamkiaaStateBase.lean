/- What the moves of a state come to: plain functions of a state, for an instance that may be. -/
import Derived.Test.YtjiammiihamkiaaPCx3
import Derived.Test.YtjiammiihamkiaaPCx4
import Derived.Test.YtjiammiihamkiaaPCx7
import Derived.Test.YtjiammiihamkiaaPCx5
import Derived.Test.YtjiammiihamkiaaPCx6
import Derived.Test.YtjiammiihamkiaaPCx10
import Derived.Test.YtjiammiihamkiaaPCx9
import Derived.Test.YtjiammiihamkiaaPCx11
import Derived.Test.YtjiammiihamkiaaMayBase
import Derived.Test.YtjiammiihamkiaaRootBase
import Derived.Test.YtjiammiihamkiaaCovBase
namespace Go.Proofs.Ytjiammiihamkiaa.State
open Go.RowKit Go.Proofs.YtjiammiihamkiaaW.PrintWords Go.Proofs.YtjiammiihamkiaaW.PrintLast Go.Proofs.YtjiammiihamkiaaW.PrintMore Go.Proofs.Ytjiammiihamkiaa.PC Go.Proofs.Ytjiammiihamkiaa.Cov
open Go.Proofs.Ytjiammiihamkiaa.Inst (mayB may_ev may_head may_get stopB demB rdS_at)
open Go.Proofs.Ytjiammiihamkiaa.Num (farZ far_f farZ_spec)
set_option linter.unusedVariables false
abbrev Sp := S23
def farL (l : List Sp) (i j : Int) : Int := farZ (rd_T23 l i).f0 (rd_T23 l i).f1 (rd_T23 l j).f0 (rd_T23 l j).f1
theorem farL_bd (l : List Sp) (i j : Int) : 0 ≤ farL l i j ∧ farL l i j ≤ 14143 := ⟨(farZ_spec _ _ _ _).1, (farZ_spec _ _ _ _).2.1⟩
theorem far_eq {p c r : Int} {l : List Sp} {s : St} {j : Int} (h0 : 0 ≤ s.f0) (h1 : s.f0 < (l.length : Int)) (h2 : 0 ≤ j) (h3 : j < (l.length : Int)) :
    state_here_far.f p c r l s.f0 s.f1 s.f2 s.f3 s.f4 s.f5 s.f6 s.f7 j = some (farL l s.f0 j) := by
  unfold state_here_far.f
  rw [if_pos h0, if_pos h1, if_pos h2, if_pos h3, far_f, Option.bind_some]; rfl
def tup9 (q : St × Bool) : Int × Int × Int × Int × Int × Int × Int × Int × Bool := (q.1.f0, q.1.f1, q.1.f2, q.1.f3, q.1.f4, q.1.f5, q.1.f6, q.1.f7, q.2)
def tup10 (q : St × Int × Bool) : Int × Int × Int × Int × Int × Int × Int × Int × Int × Bool := (q.1.f0, q.1.f1, q.1.f2, q.1.f3, q.1.f4, q.1.f5, q.1.f6, q.1.f7, q.2.1, q.2.2)
def beginP (l : List Sp) (s : St) (j : Int) : Int := mx (wrap64 (s.f2 + farL l s.f0 j)) (rd_T23 l j).f3
def seenP (l : List Sp) (s : St) (j : Int) : St := ⟨j, s.f1, wrap64 (beginP l s j + (rd_T23 l j).f5), mx (wrap64 (s.f3 + (rd_T23 l j).f2)) 0, if s.f0 = 0 then j else s.f4, withS s.f5 j, withS s.f6 j, s.f7⟩
def visitP (l : List Sp) (s : St) (j : Int) : St × Bool := if hasB s.f5 j = true ∨ beginP l s j > (rd_T23 l j).f4 then (s, false) else (seenP l s j, true)
theorem visit_ev {p c r : Int} {l : List Sp} {s : St} {j : Int} (h0 : 0 ≤ s.f0) (h1 : s.f0 < (l.length : Int)) (h2 : 0 ≤ j) (h3 : j < (l.length : Int)) :
    Ev (fun k => state_here_visit.f k p c r l s.f0 s.f1 s.f2 s.f3 s.f4 s.f5 s.f6 s.f7 j) (tup9 (visitP l s j)) := by
  have e : ∀ k, state_here_visit.f k p c r l s.f0 s.f1 s.f2 s.f3 s.f4 s.f5 s.f6 s.f7 j = state_here_visit.j0 k j (beginP l s j) (hasB s.f5 j || decide (beginP l s j > (rd_T23 l j).f4)) s.f0 s.f1 s.f2 s.f3 s.f4 s.f5 s.f6 s.f7 (rd_T23 l j).f0 (rd_T23 l j).f1 (rd_T23 l j).f2 (rd_T23 l j).f3 (rd_T23 l j).f4 (rd_T23 l j).f5 := by
    intro k
    unfold state_here_visit.f
    rw [if_pos h2, if_pos h3, far_eq h0 h1 h2 h3, Option.bind_some, has_eq, Option.bind_some]
    cases hasB s.f5 j with
    | true => rw [if_pos rfl, Bool.true_or]; rfl
    | false => rw [if_neg (by decide), Bool.false_or]; rfl
  refine Ev.congr e ?_
  unfold visitP
  by_cases hh : hasB s.f5 j = true ∨ beginP l s j > (rd_T23 l j).f4
  · have hb : (hasB s.f5 j || decide (beginP l s j > (rd_T23 l j).f4)) = true := by simpa using hh
    rw [hb, if_pos hh]
    refine Ev.step (f := fun _ => some _) (fun k => ?_) (Ev.now _)
    simp only [state_here_visit.j0]; rw [if_pos (by decide)]; rfl
  · have hb : (hasB s.f5 j || decide (beginP l s j > (rd_T23 l j).f4)) = false := by simpa using hh
    rw [hb, if_neg hh]
    refine Ev.step (f := fun _ => some (tup9 (seenP l s j, true))) (fun k => ?_) (Ev.now _)
    simp only [state_here_visit.j0]
    rw [if_neg (by decide)]
    unfold seenP tup9
    by_cases hz : s.f0 = 0
    · rw [if_pos hz, with_eq, Option.bind_some, with_eq, Option.bind_some]; simp only [hz, if_true]
    · rw [if_neg hz, with_eq, Option.bind_some, with_eq, Option.bind_some]; simp only [hz, if_false]
def takeP (r : Int) (l : List Sp) (s : St) (j : Int) : St × Bool :=
  if wrap64 (s.f3 + (rd_T23 l j).f2) > r ∨ (s.f0 = 0 ∧ j ≤ s.f4) then (s, false)
  else if (visitP l s j).2 = true then ({ (visitP l s j).1 with f7 := withS (visitP l s j).1.f7 j }, true) else ((visitP l s j).1, false)
theorem take_ev {p c r : Int} {l : List Sp} {s : St} {j : Int} (h0 : 0 ≤ s.f0) (h1 : s.f0 < (l.length : Int)) (h2 : 0 ≤ j) (h3 : j < (l.length : Int)) :
    Ev (fun k => state_here_take.f k p c r l s.f0 s.f1 s.f2 s.f3 s.f4 s.f5 s.f6 s.f7 j) (tup9 (takeP r l s j)) := by
  have e : ∀ k, state_here_take.f k p c r l s.f0 s.f1 s.f2 s.f3 s.f4 s.f5 s.f6 s.f7 j = state_here_take.j0 k j (decide (wrap64 (s.f3 + (rd_T23 l j).f2) > r ∨ (s.f0 = 0 ∧ j ≤ s.f4))) p c r l s.f0 s.f1 s.f2 s.f3 s.f4 s.f5 s.f6 s.f7 := by
    intro k
    unfold state_here_take.f
    rw [if_pos h2, if_pos h3]
    by_cases ha : wrap64 (s.f3 + (rd_T23 l j).f2) > r
    · rw [if_pos ha, decide_eq_true (Or.inl ha)]
    · rw [if_neg ha]
      by_cases hz : s.f0 = 0
      · rw [if_pos hz]
        have : decide (wrap64 (s.f3 + (rd_T23 l j).f2) > r ∨ (s.f0 = 0 ∧ j ≤ s.f4)) = decide (j ≤ s.f4) := decide_eq_decide.mpr ⟨fun h => h.elim (fun h => absurd h ha) (fun h => h.2), fun h => .inr ⟨hz, h⟩⟩
        rw [this]
      · rw [if_neg hz, decide_eq_false (fun h => h.elim ha (fun h => hz h.1))]
  refine Ev.congr e ?_
  unfold takeP
  by_cases hh : wrap64 (s.f3 + (rd_T23 l j).f2) > r ∨ (s.f0 = 0 ∧ j ≤ s.f4)
  · rw [decide_eq_true hh, if_pos hh]
    refine Ev.step (f := fun _ => some _) (fun k => ?_) (Ev.now _)
    simp only [state_here_take.j0]; rw [if_pos (by decide)]; rfl
  · rw [decide_eq_false hh, if_neg hh]
    refine Ev.step (fun k => by simp only [state_here_take.j0]; rw [if_neg (by decide)]) ?_
    refine Ev.bind (visit_ev h0 h1 h2 h3) ?_
    generalize visitP l s j = q
    obtain ⟨⟨b0, b1, b2, b3, b4, b5, b6, b7⟩, bb⟩ := q
    simp only [tup9]
    cases bb with
    | true => simp only [if_true, with_eq, Option.bind_some]; exact Ev.now _
    | false => simp only [Bool.false_eq_true, if_false]; exact Ev.now _
def bringP (p : Int) (l : List Sp) (s : St) (j : Int) : St × Bool :=
  if s.f0 = 0 ∨ hasB s.f6 (wrap64 (j - p)) = false then (s, false)
  else if (visitP l s j).2 = true then ({ (visitP l s j).1 with f7 := withoutS (visitP l s j).1.f7 (wrap64 (j - p)) }, true) else ((visitP l s j).1, false)
theorem bring_ev {p c r : Int} {l : List Sp} {s : St} {j : Int} (h0 : 0 ≤ s.f0) (h1 : s.f0 < (l.length : Int)) (h2 : 0 ≤ j) (h3 : j < (l.length : Int)) :
    Ev (fun k => state_here_bring.f k p c r l s.f0 s.f1 s.f2 s.f3 s.f4 s.f5 s.f6 s.f7 j) (tup9 (bringP p l s j)) := by
  have e : ∀ k, state_here_bring.f k p c r l s.f0 s.f1 s.f2 s.f3 s.f4 s.f5 s.f6 s.f7 j = state_here_bring.j0 k j (decide (s.f0 = 0 ∨ hasB s.f6 (wrap64 (j - p)) = false)) p c r l s.f0 s.f1 s.f2 s.f3 s.f4 s.f5 s.f6 s.f7 := by
    intro k
    unfold state_here_bring.f
    by_cases hz : s.f0 = 0
    · rw [if_pos hz, decide_eq_true (Or.inl hz)]
    · rw [if_neg hz, has_eq, Option.bind_some]
      cases hb : hasB s.f6 (wrap64 (j - p)) with
      | true => rw [decide_eq_false (fun h => h.elim hz (fun h => by cases h))]; rfl
      | false => rw [decide_eq_true (Or.inr rfl)]; rfl
  refine Ev.congr e ?_
  unfold bringP
  by_cases hh : s.f0 = 0 ∨ hasB s.f6 (wrap64 (j - p)) = false
  · rw [decide_eq_true hh, if_pos hh]
    refine Ev.step (f := fun _ => some _) (fun k => ?_) (Ev.now _)
    simp only [state_here_bring.j0]; rw [if_pos (by decide)]; rfl
  · rw [decide_eq_false hh, if_neg hh]
    refine Ev.step (fun k => by simp only [state_here_bring.j0]; rw [if_neg (by decide)]) ?_
    refine Ev.bind (visit_ev h0 h1 h2 h3) ?_
    generalize visitP l s j = q
    obtain ⟨⟨b0, b1, b2, b3, b4, b5, b6, b7⟩, bb⟩ := q
    simp only [tup9]
    cases bb with
    | true => simp only [if_true, without_eq, Option.bind_some]; exact Ev.now _
    | false => simp only [Bool.false_eq_true, if_false]; exact Ev.now _
theorem all_ev {p c r : Int} {l : List Sp} {s : St} {x : Int} (hx : U x) : Ev (fun k => state_here_all.f k p c r l s.f0 s.f1 s.f2 s.f3 s.f4 s.f5 s.f6 s.f7 x) (decide (SubI (uptoV (wrap64 (2 * p))) x)) := by
  refine Ev.bind (upto_ev _) ?_
  rw [within_eq (upto_U _) hx]
  exact Ev.now _
def lateP (l : List Sp) (s : St) : Prop := wrap64 (s.f2 + farL l s.f0 0) > (rd_T23 l 0).f4
instance (l : List Sp) (s : St) : Decidable (lateP l s) := inferInstanceAs (Decidable (_ > _))
def homeP (p c : Int) (l : List Sp) (s : St) : St × Bool :=
  if s.f0 = 0 then (s, false) else if s.f7 = 0 then (if s.f1 ≥ c then (s, false) else if SubI (uptoV (wrap64 (2 * p))) s.f5 then (s, false) else if lateP l s then (s, false) else (⟨0, wrap64 (s.f1 + 1), (rd_T23 l 0).f3, 0, s.f4, s.f5, s.f6, s.f7⟩, true)) else (s, false)
theorem home_ev {p c r : Int} {l : List Sp} {s : St} {j : Int} (ok : OK s) (h0 : 0 ≤ s.f0) (h1 : s.f0 < (l.length : Int)) :
    Ev (fun k => state_here_home.f k p c r l s.f0 s.f1 s.f2 s.f3 s.f4 s.f5 s.f6 s.f7 j) (tup9 (homeP p c l s)) := by
  unfold homeP
  by_cases a1 : s.f0 = 0
  · rw [if_pos a1]; exact Ev.congr (f := fun _ => some _) (fun k => by unfold state_here_home.f; rw [if_pos a1]; rfl) (Ev.now _)
  · rw [if_neg a1]
    by_cases a2 : s.f7 = 0
    · rw [if_pos a2]
      by_cases a3 : s.f1 ≥ c
      · rw [if_pos a3]; exact Ev.congr (f := fun _ => some _) (fun k => by unfold state_here_home.f; rw [if_neg a1, if_pos a2, if_pos a3]; rfl) (Ev.now _)
      · rw [if_neg a3]
        refine Ev.congr (fun k => by unfold state_here_home.f; rw [if_neg a1, if_pos a2, if_neg a3]) ?_
        refine Ev.bind (all_ev ok.1) ?_
        by_cases a4 : SubI (uptoV (wrap64 (2 * p))) s.f5
        · rw [decide_eq_true a4, if_pos a4]; simp only [if_true]; exact Ev.now _
        · rw [decide_eq_false a4, if_neg a4]
          simp only [Bool.false_eq_true, if_false]
          rw [far_eq h0 h1 (by omega) (by omega), Option.bind_some, if_pos (show (0 : Int) < (l.length : Int) by omega)]
          by_cases a5 : lateP l s
          · rw [if_pos a5, if_pos (show wrap64 (s.f2 + farL l s.f0 0) > (rd_T23 l 0).f4 from a5)]; exact Ev.now _
          · rw [if_neg a5, if_neg (show ¬ wrap64 (s.f2 + farL l s.f0 0) > (rd_T23 l 0).f4 from a5)]; exact Ev.now _
    · rw [if_neg a2]; exact Ev.congr (f := fun _ => some _) (fun k => by unfold state_here_home.f; rw [if_neg a1, if_neg a2]; rfl) (Ev.now _)
def stepP (p c r : Int) (l : List Sp) (s : St) (j : Int) : St × Bool := if j = 0 then homeP p c l s else if j ≤ p then takeP r l s j else bringP p l s j
def moveP (p c r : Int) (l : List Sp) (s : St) (j : Int) : St × Int × Bool :=
  if j < 0 ∨ j > wrap64 (2 * p) then (s, 0, false) else if (stepP p c r l s j).2 = true then ((stepP p c r l s j).1, farL l s.f0 j, true) else (s, 0, false)
theorem to_ev {p c r : Int} {l : List Sp} {s : St} {j : Int} (ok : OK s) (h0 : 0 ≤ s.f0) (h1 : s.f0 < (l.length : Int)) (h2 : 0 ≤ j) (h3 : j < (l.length : Int)) :
    Ev (fun k => state_here_to.f k (if j = 0 then 53 else if j ≤ p then 54 else 52) p c r l s.f0 s.f1 s.f2 s.f3 s.f4 s.f5 s.f6 s.f7 j) (tup9 (stepP p c r l s j)) := by
  unfold stepP
  by_cases a : j = 0
  · rw [if_pos a, if_pos a]
    exact Ev.congr (fun k => by unfold state_here_to.f; rw [if_pos rfl]) (home_ev ok h0 h1)
  · rw [if_neg a, if_neg a]
    by_cases b : j ≤ p
    · rw [if_pos b, if_pos b]
      exact Ev.congr (fun k => by unfold state_here_to.f; rw [if_neg (by decide), if_pos rfl]) (take_ev h0 h1 h2 h3)
    · rw [if_neg b, if_neg b]
      exact Ev.congr (fun k => by unfold state_here_to.f; rw [if_neg (by decide), if_neg (by decide), if_pos rfl]) (bring_ev h0 h1 h2 h3)
theorem hmove_ev {p c r : Int} {l : List Sp} {s : St} {j : Int} (hp : 0 ≤ p ∧ p ≤ 16) (hl : (l.length : Int) = 2 * p + 1) (ok : OK s) (h0 : 0 ≤ s.f0) (h1 : s.f0 < (l.length : Int)) :
    Ev (fun k => state_here_move.f k p c r l s.f0 s.f1 s.f2 s.f3 s.f4 s.f5 s.f6 s.f7 j) (tup10 (moveP p c r l s j)) := by
  have e2 : wrap64 (2 * p) = 2 * p := w64 (by omega) (by omega)
  have e : ∀ k, state_here_move.f k p c r l s.f0 s.f1 s.f2 s.f3 s.f4 s.f5 s.f6 s.f7 j = state_here_move.j0 k j (decide (j < 0 ∨ j > wrap64 (2 * p))) p c r l s.f0 s.f1 s.f2 s.f3 s.f4 s.f5 s.f6 s.f7 := by
    intro k
    unfold state_here_move.f
    by_cases a : j < 0
    · rw [if_pos a, decide_eq_true (Or.inl a)]
    · rw [if_neg a]
      have : decide (j < 0 ∨ j > wrap64 (2 * p)) = decide (j > wrap64 (2 * p)) := decide_eq_decide.mpr ⟨fun h => h.elim (fun h => absurd h a) id, .inr⟩
      rw [this]
  refine Ev.congr e ?_
  unfold moveP
  by_cases hh : j < 0 ∨ j > wrap64 (2 * p)
  · rw [decide_eq_true hh, if_pos hh]
    refine Ev.step (f := fun _ => some _) (fun k => ?_) (Ev.now _)
    simp only [state_here_move.j0]; rw [if_pos (by decide)]; rfl
  · rw [decide_eq_false hh, if_neg hh]
    have h2 : 0 ≤ j := by omega
    have h3 : j < (l.length : Int) := by rw [e2] at hh; omega
    have g : ∀ k, state_here_move.j0 (k + 1) j false p c r l s.f0 s.f1 s.f2 s.f3 s.f4 s.f5 s.f6 s.f7 = state_here_move.j1 k j (if j = 0 then 53 else if j ≤ p then 54 else 52) p c r l s.f0 s.f1 s.f2 s.f3 s.f4 s.f5 s.f6 s.f7 := by
      intro k
      simp only [state_here_move.j0]
      rw [if_neg (by decide)]
      by_cases a : j = 0
      · rw [if_pos a, if_pos a]
      · rw [if_neg a, if_neg a]
        by_cases b : j ≤ p
        · rw [if_pos b, if_pos b]
        · rw [if_neg b, if_neg b]
    refine Ev.step g (Ev.step (fun k => by simp only [state_here_move.j1]; rfl) ?_)
    refine Ev.bind (to_ev ok h0 h1 h2 h3) ?_
    rw [far_eq h0 h1 h2 h3]
    generalize stepP p c r l s j = q
    obtain ⟨⟨b0, b1, b2, b3, b4, b5, b6, b7⟩, bb⟩ := q
    simp only [tup9, tup10]
    cases bb with
    | true => simp only [if_true, Option.bind_some]; exact Ev.now _
    | false => simp only [Bool.false_eq_true, if_false]; exact Ev.now _
/-- May a state go on? -/
def hereP (p c : Int) (s : St) : Prop := 0 ≤ s.f0 ∧ s.f0 ≤ wrap64 (2 * p) ∧ 1 ≤ s.f1 ∧ s.f1 ≤ c ∧ 0 ≤ s.f2 ∧ s.f2 ≤ 1073741824 ∧ 0 ≤ s.f3 ∧ s.f3 ≤ 1000
instance (p c : Int) (s : St) : Decidable (hereP p c s) := inferInstanceAs (Decidable (_ ∧ _))
theorem here_eq (p c r : Int) (l : List Sp) (s : St) : state_here_may.f p c r l s.f0 s.f1 s.f2 s.f3 s.f4 s.f5 s.f6 s.f7 = some (decide (hereP p c s)) := by
  unfold state_here_may.f hereP
  by_cases h0 : s.f0 ≥ 0 <;> by_cases h1 : s.f0 ≤ wrap64 (2 * p) <;> by_cases h2 : s.f1 ≥ 1 <;> by_cases h3 : s.f1 ≤ c <;> by_cases h4 : s.f2 ≥ 0 <;> by_cases h5 : s.f2 ≤ 1073741824 <;> by_cases h6 : s.f3 ≥ 0 <;> simp [h0, h1, h2, h3, h4, h5, h6] <;> omega
def MoveP (p c r : Int) (l : List Sp) (s : St) (j : Int) : St × Int × Bool := if mayB p c r l = true ∧ hereP p c s then moveP p c r l s j else (s, 0, false)
theorem Move_ev {p c r : Int} {l : List Sp} {s : St} {j : Int} (ok : OK s) : Ev (fun k => state_Move.f k p c r l s.f0 s.f1 s.f2 s.f3 s.f4 s.f5 s.f6 s.f7 j) (tup10 (MoveP p c r l s j)) := by
  unfold MoveP
  refine Ev.bind (may_ev p c r l) ?_
  by_cases hm : mayB p c r l = true
  · rw [hm]
    simp only [if_true, here_eq, Option.bind_some, true_and]
    by_cases hh : hereP p c s
    · simp only [decide_eq_true hh, if_true, if_pos hh]
      have hd := may_head hm
      have e2 : wrap64 (2 * p) = 2 * p := w64 (by omega) (by omega)
      have h1 := hh.2.1
      rw [e2] at h1
      refine Ev.bind (hmove_ev ⟨hd.1, hd.2.1⟩ hd.2.2.2.2.2.2 ok hh.1 (by omega)) ?_
      exact Ev.now _
    · simp only [decide_eq_false hh, Bool.false_eq_true, if_false, if_neg hh]; exact Ev.now _
  · rw [Bool.eq_false_iff.mpr hm, if_neg (fun h => absurd h.1 (by decide))]
    simp only [Bool.false_eq_true, if_false]; exact Ev.now _
end Go.Proofs.Ytjiammiihamkiaa.State
