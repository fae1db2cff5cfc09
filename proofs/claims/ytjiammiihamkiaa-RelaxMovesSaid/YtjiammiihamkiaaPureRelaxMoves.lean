/- Where one state covers another one, each move of that can be made from it, costs as much, and the state behind it covers the other. -/
import Derived.Test.YtjiammiihamkiaaDefRelaxMoves
import Derived.Test.YtjiammiihamkiaaEndBase
namespace Go.Proofs.Ytjiammiihamkiaa.Pure
open Go.RowKit Go.Proofs.Ytjiammiihamkiaa.PB Go.Proofs.YtjiammiihamkiaaW.PrintWords Go.Proofs.YtjiammiihamkiaaW.PrintLast Go.Proofs.YtjiammiihamkiaaW.PrintMore Go.Proofs.Ytjiammiihamkiaa.Op Go.Proofs.Ytjiammiihamkiaa.Cov Go.Proofs.Ytjiammiihamkiaa.State
set_option linter.unusedVariables false
theorem ok_wf {x : St} (h : wf_t40 x) : OK x := ⟨wfu h.2.2.2.2.2.1, wfu h.2.2.2.2.2.2.1, wfu h.2.2.2.2.2.2.2⟩
theorem moves_loop {p c r : Int} {l : List Sp} {a b : St} (h : After a b) (L : List Int) (hL : ∀ j ∈ L, (MoveP p c r l b j).2.2 = true) (hn : L.length ≤ 100) : ∀ (d i : Nat), i + d = L.length →
    Ev (fun k => haulierlaw11_RelaxMoves.l0 k L (i : Int) p c r l a.f0 a.f1 a.f2 a.f3 a.f4 a.f5 a.f6 a.f7 b.f0 b.f1 b.f2 b.f3 b.f4 b.f5 b.f6 b.f7) true := by
  intro d
  induction d with
  | zero =>
    intro i hi
    refine Ev.step (fun k => by simp only [haulierlaw11_RelaxMoves.l0]; rw [if_neg (show ¬ (i : Int) < (L.length : Int) by omega)]) ?_
    refine Ev.bind (End_ev h.oka) (Ev.bind (End_ev h.okb) ?_)
    by_cases hp : p = 0
    · subst hp
      by_cases h1 : (EndP 0 c r l b).2 = true
      · rw [if_pos h1]
        split
        · split
          · exact Ev.now _
          · exact Ev.now _
        · exact Ev.now _
      · rw [if_neg h1]; exact Ev.now _
    · by_cases h1 : (EndP p c r l b).2 = true
      · rw [if_pos h1, End_mono hp h h1, if_pos h1, if_pos rfl]; exact Ev.now _
      · rw [if_neg h1]; exact Ev.now _
  | succ d ih =>
    intro i hi
    have hlt : i < L.length := by omega
    have e : wrap64 ((i : Int) + 1) = ((i + 1 : Nat) : Int) := by rw [w64 (by omega) (by omega)]; omega
    have er : rd L (i : Int) = L[i] := by unfold rd; simp [List.getD, List.getElem?_eq_getElem hlt]
    have hj := hL L[i] (List.getElem_mem hlt)
    have hm := Move_mono h hj
    refine Ev.step (fun k => by simp only [haulierlaw11_RelaxMoves.l0]; rw [if_pos (show (i : Int) < (L.length : Int) by omega), if_pos (show (0 : Int) ≤ (i : Int) by omega), er, e]) ?_
    refine Ev.bind (Move_ev h.oka) (Ev.bind (Move_ev h.okb) ?_)
    have h' := ih (i + 1) (by omega)
    generalize MoveP p c r l a L[i] = x at *
    generalize MoveP p c r l b L[i] = y at *
    obtain ⟨s, m, u⟩ := x
    obtain ⟨t, n, v⟩ := y
    obtain ⟨g1, g2, g3⟩ := hm
    simp only at g1 g2 g3 hj
    simp only [tup10, g1, hj, g2, if_true]
    rw [covers_eq g3.oka g3.okb]
    simp only [Option.bind_some, decide_eq_true g3.cov, if_true]
    exact h'
theorem RelaxMoves : haulierlaw11_RelaxMoves.Claim := by
  intro x a b hx ha hb
  have oa := ok_wf ha
  have ob := ok_wf hb
  obtain ⟨p, c, r, l⟩ := x
  dsimp only
  suffices h : Ev (fun k => haulierlaw11_RelaxMoves.f k p c r l a.f0 a.f1 a.f2 a.f3 a.f4 a.f5 a.f6 a.f7 b.f0 b.f1 b.f2 b.f3 b.f4 b.f5 b.f6 b.f7) true from h.rounds
  have out : Ev (fun k => haulierlaw11_RelaxMoves.j0 k true true p c r l a.f0 a.f1 a.f2 a.f3 a.f4 a.f5 a.f6 a.f7 b.f0 b.f1 b.f2 b.f3 b.f4 b.f5 b.f6 b.f7) true := by
    refine Ev.step (f := fun _ => some true) (fun k => ?_) (Ev.now _)
    simp [haulierlaw11_RelaxMoves.j0]
  unfold haulierlaw11_RelaxMoves.f
  simp only [awake_eq, Option.bind_some, if_true, covers_eq oa ob]
  by_cases c1 : (l.length : Int) > 100
  · simp only [if_pos c1]; exact out
  simp only [if_neg c1]
  by_cases c2 : Cov a b
  · simp only [decide_eq_true c2, if_true]
    by_cases c3 : a.f1 < 1
    · simp only [if_pos c3]; exact out
    simp only [if_neg c3]
    by_cases c4 : a.f2 < 0
    · simp only [if_pos c4]; exact out
    simp only [if_neg c4]
    by_cases c5 : a.f3 < 0
    · simp only [decide_eq_true c5]; exact out
    simp only [decide_eq_false c5]
    have h : After a b := ⟨c2, oa, ob, ⟨by omega, by omega, by omega⟩⟩
    refine Ev.step (fun k => by simp only [haulierlaw11_RelaxMoves.j0]; rw [if_neg (by decide)]) ?_
    refine Ev.bind (Moves_ev ob) ?_
    exact moves_loop h _ (fun j hj => Moves_mem hj) (by have := Moves_len (p := p) (c := c) (r := r) (l := l) (s := b); omega) (MovesP p c r l b).length 0 (by omega)
  · simp only [decide_eq_false c2, Bool.false_eq_true, if_false]; exact out
end Go.Proofs.Ytjiammiihamkiaa.Pure
