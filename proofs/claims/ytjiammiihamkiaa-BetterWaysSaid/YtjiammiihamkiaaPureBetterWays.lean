/- Whatever can be done from a node, and ended, can be done from one that leaves it without use, and costs no more in the end. -/
import Derived.Test.YtjiammiihamkiaaDefBetterWays
import Derived.Test.YtjiammiihamkiaaEndBase
import Derived.Test.YtjiammiihamkiaaPCx2
import Derived.Test.YtjiammiihamkiaaPCx13
namespace Go.Proofs.Ytjiammiihamkiaa.Pure
open Go.RowKit Go.Proofs.Ytjiammiihamkiaa.PC Go.Proofs.YtjiammiihamkiaaW.PrintWords Go.Proofs.YtjiammiihamkiaaW.PrintLast Go.Proofs.YtjiammiihamkiaaW.PrintMore Go.Proofs.Ytjiammiihamkiaa.Op Go.Proofs.Ytjiammiihamkiaa.Cov Go.Proofs.Ytjiammiihamkiaa.State
set_option linter.unusedVariables false
theorem ok_wf' {x : St} (h : wf_t40 x) : OK x := ⟨wfu h.2.2.2.2.2.1, wfu h.2.2.2.2.2.2.1, wfu h.2.2.2.2.2.2.2⟩
theorem awake13 : haulierlaw13_awake.f = some true := by decide
theorem zero_bd : (0 : Int) ≤ 0 ∧ (0 : Int) ≤ 14143 := ⟨by decide, by decide⟩
theorem move_bd {p c r : Int} {l : List Sp} {s : St} {j : Int} : 0 ≤ (MoveP p c r l s j).2.1 ∧ (MoveP p c r l s j).2.1 ≤ 14143 := by
  unfold MoveP
  split
  · unfold moveP
    (repeat' split) <;> first | exact farL_bd _ _ _ | exact zero_bd
  · exact zero_bd
theorem end_bd {p c r : Int} {l : List Sp} {s : St} : 0 ≤ (EndP p c r l s).1 ∧ (EndP p c r l s).1 ≤ 14143 := by
  unfold EndP
  split
  · split
    · exact zero_bd
    · unfold endG
      (repeat' split) <;> first | exact farL_bd _ _ _ | exact zero_bd
  · exact zero_bd
theorem ways_loop {p c r : Int} {l : List Sp} (hp : ¬ p = 0) (L : List Int) (hn : L.length ≤ 100) : ∀ (d i : Nat) (n m : Int) (a b : St), i + d = L.length → After a b → 0 ≤ n → n ≤ m → m ≤ 1152921504606846976 + 14143 * (i : Int) →
    Ev (fun k => haulierlaw13_BetterWays.l0 k L n m (i : Int) p c r l a.f0 a.f1 a.f2 a.f3 a.f4 a.f5 a.f6 a.f7 b.f0 b.f1 b.f2 b.f3 b.f4 b.f5 b.f6 b.f7) true := by
  intro d
  induction d with
  | zero =>
    intro i n m a b hi h h0 h1 h2
    refine Ev.step (fun k => by simp only [haulierlaw13_BetterWays.l0]; rw [if_neg (show ¬ (i : Int) < (L.length : Int) by omega)]) ?_
    refine Ev.bind (End_ev h.okb) (Ev.bind (End_ev h.oka) ?_)
    by_cases h1' : (EndP p c r l b).2 = true
    · have e := End_mono hp h h1'
      have hb := end_bd (p := p) (c := c) (r := r) (l := l) (s := b)
      simp only [h1', if_true, e]
      have hle : (i : Int) ≤ 100 := by omega
      rw [w64 (by omega) (by omega), w64 (by omega) (by omega), decide_eq_true (by omega)]
      exact Ev.now _
    · simp only [if_neg h1']; exact Ev.now _
  | succ d ih =>
    intro i n m a b hi h h0 h1 h2
    have hlt : i < L.length := by omega
    have e : wrap64 ((i : Int) + 1) = ((i + 1 : Nat) : Int) := by rw [w64 (by omega) (by omega)]; omega
    have er : rd L (i : Int) = L[i] := by unfold rd; simp [List.getD, List.getElem?_eq_getElem hlt]
    refine Ev.step (fun k => by simp only [haulierlaw13_BetterWays.l0]; rw [if_pos (show (i : Int) < (L.length : Int) by omega), if_pos (show (0 : Int) ≤ (i : Int) by omega), er, e]) ?_
    refine Ev.bind (Move_ev h.okb) (Ev.bind (Move_ev h.oka) ?_)
    by_cases hj : (MoveP p c r l b L[i]).2.2 = true
    · have hm := Move_mono h hj
      have hb := move_bd (p := p) (c := c) (r := r) (l := l) (s := b) (j := L[i])
      have h' := fun s t x g g0 g1 g2 => ih (i + 1) (n + x) (m + x) s t (by omega) g g0 g1 g2
      generalize MoveP p c r l a L[i] = x at *
      generalize MoveP p c r l b L[i] = y at *
      obtain ⟨s, m', u⟩ := x
      obtain ⟨t, n', v⟩ := y
      obtain ⟨g1, g2, g3⟩ := hm
      simp only at g1 g2 g3 hj h' hb
      simp only [tup10, g1, hj, g2, if_true]
      have hle : (i : Int) ≤ 100 := by omega
      rw [w64 (by omega) (by omega), w64 (by omega) (by omega)]
      exact h' s t n' g3 (by omega) (by omega) (by omega)
    · have hj' : (MoveP p c r l b L[i]).2.2 = false := Bool.eq_false_iff.mpr hj
      simp only [tup10, hj', Bool.false_eq_true, if_false]; exact Ev.now _
theorem BetterWays : haulierlaw13_BetterWays.Claim := by
  intro x a b L hx ha hb hL
  have oa := ok_wf' ha.1
  have ob := ok_wf' hb.1
  obtain ⟨p, c, r, l⟩ := x
  obtain ⟨a, an, ap⟩ := a
  obtain ⟨b, bn, bp⟩ := b
  dsimp only at oa ob ⊢
  suffices h : Ev (fun k => haulierlaw13_BetterWays.f k p c r l a.f0 a.f1 a.f2 a.f3 a.f4 a.f5 a.f6 a.f7 an ap b.f0 b.f1 b.f2 b.f3 b.f4 b.f5 b.f6 b.f7 bn bp L) true from h.rounds
  have out : Ev (fun k => haulierlaw13_BetterWays.j0 k L true true p c r l a.f0 a.f1 a.f2 a.f3 a.f4 a.f5 a.f6 a.f7 an ap b.f0 b.f1 b.f2 b.f3 b.f4 b.f5 b.f6 b.f7 bn bp) true := by
    refine Ev.step (f := fun _ => some true) (fun k => ?_) (Ev.now _)
    simp [haulierlaw13_BetterWays.j0]
  unfold haulierlaw13_BetterWays.f
  simp only [awake13, Option.bind_some, if_true]
  by_cases c1 : (l.length : Int) > 100
  · simp only [if_pos c1]; exact out
  simp only [if_neg c1]
  by_cases c0 : (L.length : Int) > 100
  · simp only [if_pos c0]; exact out
  simp only [if_neg c0]
  unfold better_Than.f
  by_cases d1 : an ≤ bn
  · simp only [if_pos d1]
    by_cases d2 : (a.f5 == b.f5 && (a.f6 == b.f6 && a.f7 == b.f7)) = true
    · simp only [if_pos d2, covers_eq oa ob, Option.bind_some]
      by_cases c2 : Cov a b
      · simp only [decide_eq_true c2, if_true]
        by_cases c3 : a.f1 < 1
        · simp only [if_pos c3]; exact out
        simp only [if_neg c3]
        by_cases c4 : a.f2 < 0
        · simp only [if_pos c4]; exact out
        simp only [if_neg c4]
        by_cases c5 : a.f3 < 0
        · simp only [if_pos c5]; exact out
        simp only [if_neg c5]
        by_cases cp : p = 0
        · simp only [if_pos cp]; exact out
        simp only [if_neg cp]
        by_cases c6 : an < 0
        · simp only [if_pos c6]; exact out
        simp only [if_neg c6]
        by_cases c7 : bn > 1152921504606846976
        · simp only [decide_eq_true c7]; exact out
        simp only [decide_eq_false c7]
        have h : After a b := ⟨c2, oa, ob, ⟨by omega, by omega, by omega⟩⟩
        refine Ev.step (fun k => by simp only [haulierlaw13_BetterWays.j0]; rw [if_neg (by decide)]) ?_
        exact ways_loop cp L (by omega) L.length 0 an bn a b (by omega) h (by omega) d1 (by omega)
      · simp only [decide_eq_false c2, Bool.false_eq_true, if_false]; exact out
    · simp only [if_neg d2, Option.bind_some, Bool.false_eq_true, if_false]; exact out
  · simp only [if_neg d1, Option.bind_some, Bool.false_eq_true, if_false]; exact out
end Go.Proofs.Ytjiammiihamkiaa.Pure
