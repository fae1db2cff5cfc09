/- What it costs to end at a state. -/
import Derived.Test.YtjiammiihamkiaaPCx12
import Derived.Test.YtjiammiihamkiaaPCx11
import Derived.Test.YtjiammiihamkiaaStateMono
namespace Go.Proofs.Ytjiammiihamkiaa.State
open Go.RowKit Go.Proofs.YtjiammiihamkiaaW.PrintWords Go.Proofs.YtjiammiihamkiaaW.PrintLast Go.Proofs.YtjiammiihamkiaaW.PrintMore Go.Proofs.Ytjiammiihamkiaa.PC Go.Proofs.Ytjiammiihamkiaa.Cov
open Go.Proofs.Ytjiammiihamkiaa.Inst (mayB may_ev may_head may_get stopB demB rdS_at)
set_option linter.unusedVariables false
def rootB (l : List Sp) (s : St) : Bool := s.f0 == 0 && (s.f1 == 1 && (s.f2 == (rd_T23 l 0).f3 && (s.f3 == 0 && (s.f4 == 0 && (s.f5 == 0 && (s.f6 == 0 && (s.f7 == 0)))))))
def endG (p c r : Int) (l : List Sp) (s : St) : Int × Bool :=
  if hereP p c s then (if s.f0 = 0 then (0, false) else if s.f7 = 0 then (if SubI (uptoV (wrap64 (2 * p))) s.f6 then (if lateP l s then (0, false) else (farL l s.f0 0, true)) else (0, false)) else (0, false)) else (0, false)
def EndP (p c r : Int) (l : List Sp) (s : St) : Int × Bool := if mayB p c r l = true then (if p = 0 ∧ rootB l s = true then (0, true) else endG p c r l s) else (0, false)
theorem endG_ev {p c r : Int} {l : List Sp} {s : St} (hm : mayB p c r l = true) (ok : OK s) (q : List Sp) (hq : q.length = l.length) : Ev (fun k => state_End.j0 k false p c r l s.f0 s.f1 s.f2 s.f3 s.f4 s.f5 s.f6 s.f7 p c r l s.f0 s.f1 s.f2 s.f3 s.f4 s.f5 s.f6 s.f7) (endG p c r l s) := by
  refine Ev.step (fun k => by simp only [state_End.j0]; rw [if_neg (by decide), here_eq, Option.bind_some]) ?_
  unfold endG
  by_cases hh : hereP p c s
  · simp only [decide_eq_true hh, if_true, if_pos hh]
    have hd := may_head hm
    have e2 : wrap64 (2 * p) = 2 * p := w64 (by omega) (by omega)
    have h0 := hh.1
    have h1 := hh.2.1
    rw [e2] at h1
    by_cases a1 : s.f0 = 0
    · simp only [if_pos a1]; exact Ev.now _
    · simp only [if_neg a1]
      by_cases a2 : s.f7 = 0
      · simp only [if_pos a2]
        refine Ev.bind (all_ev ok.2.1) ?_
        by_cases a4 : SubI (uptoV (wrap64 (2 * p))) s.f6
        · simp only [decide_eq_true a4, if_pos a4, if_true]
          rw [far_eq h0 (by omega) (by omega) (by omega)]
          simp only [Option.bind_some]
          rw [if_pos (show (0 : Int) < (l.length : Int) by omega)]
          by_cases a5 : lateP l s
          · rw [if_pos a5, if_pos (show wrap64 (s.f2 + farL l s.f0 0) > (rd_T23 l 0).f4 from a5)]; exact Ev.now _
          · rw [if_neg a5, if_neg (show ¬ wrap64 (s.f2 + farL l s.f0 0) > (rd_T23 l 0).f4 from a5)]; exact Ev.now _
        · simp only [decide_eq_false a4, if_neg a4, Bool.false_eq_true, if_false]; exact Ev.now _
      · simp only [if_neg a2]; exact Ev.now _
  · simp only [decide_eq_false hh, if_neg hh, Bool.false_eq_true, if_false]; exact Ev.now _
theorem Root_ev {p c r : Int} {l : List Sp} (hm : mayB p c r l = true) : Ev (fun k => state_Root.f k p c r l) (0, 1, (rd_T23 l 0).f3, 0, 0, 0, 0, 0) := by
  refine Ev.bind (may_ev p c r l) ?_
  have hd := may_head hm
  rw [hm]
  simp only [if_true]
  rw [if_pos (show (0 : Int) < (l.length : Int) by omega)]
  exact Ev.now _
theorem End_ev {p c r : Int} {l : List Sp} {s : St} (ok : OK s) : Ev (fun k => state_End.f k p c r l s.f0 s.f1 s.f2 s.f3 s.f4 s.f5 s.f6 s.f7) (EndP p c r l s) := by
  unfold EndP
  refine Ev.bind (may_ev p c r l) ?_
  by_cases hm : mayB p c r l = true
  · rw [hm]
    simp only [if_true]
    by_cases hp : p = 0
    · simp only [if_pos hp]
      refine Ev.bind (Root_ev hm) ?_
      by_cases hr : rootB l s = true
      · rw [if_pos ⟨hp, hr⟩]
        refine Ev.step (f := fun _ => some _) (fun k => ?_) (Ev.now _)
        simp only [state_End.j0]
        exact if_pos hr
      · rw [if_neg (fun h => hr h.2)]
        refine Ev.congr (fun k => ?_) (endG_ev hm ok l rfl)
        have hr' : (s.f0 == 0 && (s.f1 == 1 && (s.f2 == (rd_T23 l 0).f3 && (s.f3 == 0 && (s.f4 == 0 && (s.f5 == 0 && (s.f6 == 0 && (s.f7 == 0)))))))) = false := Bool.eq_false_iff.mpr hr
        simp only [hr']
    · simp only [if_neg hp]
      rw [if_neg (fun h => hp h.1)]
      exact endG_ev hm ok l rfl
  · rw [if_neg hm, Bool.eq_false_iff.mpr hm]
    simp only [Bool.false_eq_true, if_false]; exact Ev.now _
/-- What can end there can end in a state that covers it, and costs as much. -/
theorem End_mono {p c r : Int} {l : List Sp} {a b : St} (hp : ¬ p = 0) (h : After a b) (hv : (EndP p c r l b).2 = true) : EndP p c r l a = EndP p c r l b := by
  unfold EndP at hv ⊢
  by_cases hm : mayB p c r l = true
  · rw [if_pos hm, if_neg (fun h => hp h.1)] at hv
    rw [if_pos hm, if_pos hm, if_neg (fun h => hp h.1), if_neg (fun h => hp h.1)]
    unfold endG at hv ⊢
    have hc := h.cov
    by_cases hh : hereP p c b
    · rw [if_pos hh] at hv
      rw [if_pos hh, if_pos (here_down h hh), hc.1]
      by_cases a1 : b.f0 = 0
      · rw [if_pos a1, if_pos a1]
      · rw [if_neg a1] at hv
        rw [if_neg a1, if_neg a1]
        by_cases a2 : b.f7 = 0
        · rw [if_pos a2] at hv
          have b2 : a.f7 = 0 := sub_zero h.oka.2.2 (by rw [← a2]; exact hc.2.2.2.2.2.2.1)
          rw [if_pos a2, if_pos b2]
          by_cases a4 : SubI (uptoV (wrap64 (2 * p))) b.f6
          · rw [if_pos a4] at hv
            rw [if_pos a4, if_pos (sub_trans a4 hc.2.2.2.2.2.2.2)]
            by_cases a5 : lateP l b
            · rw [if_pos a5] at hv; exact absurd hv (by simp)
            · have b5 : ¬ lateP l a := by
                unfold lateP at a5 ⊢
                rw [hc.1]
                have hf0 := farL_bd l b.f0 0
                generalize farL l b.f0 0 = f at *
                have h2 := hc.2.2.1
                have hb2 := hh.2.2.2.2.2.1
                rw [w64 (by have := h.low.2.1; omega) (by omega)] at a5 ⊢
                omega
              rw [if_neg a5, if_neg b5]
          · rw [if_neg a4] at hv; exact absurd hv (by simp)
        · rw [if_neg a2] at hv; exact absurd hv (by simp)
    · rw [if_neg hh] at hv; exact absurd hv (by simp)
  · rw [if_neg hm] at hv; exact absurd hv (by simp)
end Go.Proofs.Ytjiammiihamkiaa.State
