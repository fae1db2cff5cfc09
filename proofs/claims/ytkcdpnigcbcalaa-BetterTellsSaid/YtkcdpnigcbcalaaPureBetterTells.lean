import Derived.Test.YtkcdpnigcbcalaaDefBetterTells
import Derived.Test.YtkcdpnigcbcalaaNodeRef
namespace Go.Proofs.Ytkcdpnigcbcalaa.Pure
open Go.RowKit Go.Proofs.Ytkcdpnigcbcalaa.PB Go.Proofs.YtkcdpnigcbcalaaW.PrintWords Go.Proofs.YtkcdpnigcbcalaaW.PrintLast Go.Proofs.Ytkcdpnigcbcalaa.Sets Go.Proofs.Ytkcdpnigcbcalaa.FrontPure
theorem BetterTells : haulierlaw13_BetterTells.Claim := by
  intro a b l ha hb hl
  apply Ev.rounds
  have oa := on_wf ha
  have ob := on_wf hb
  have ol : ∀ x, x ∈ l → ON x := fun x hx => on_wf (hl.2 x hx)
  simp only [haulierlaw13_BetterTells.f, awake_eq, Option.bind_some, if_true]
  refine Ev.bind (few_ev l) ?_
  apply Ev.succ
  simp only [haulierlaw13_BetterTells.j0]
  cases hF : Few l with
  | false => simp only [Bool.not_false, if_true]; exact Ev.now _
  | true =>
    simp only [Bool.not_true, Bool.false_eq_true, if_false]
    rw [few_front hF ol]
    simp only [Option.bind_some]
    unfold Few at hF
    rw [Bool.and_eq_true] at hF
    have h60 := of_decide_eq_true hF.1
    have hp : ∀ x, x ∈ frontL th l → x.f2.length ≤ 100 := fun x hx => of_decide_eq_true (List.all_eq_true.1 hF.2 x (frontL_mem hx))
    have hlen := frontL_length (th := th) l
    refine Ev.bind (rfront_ev l h60 ol) (Ev.bind (same_ev _ (by omega) hp) ?_)
    simp only [if_true, than_th oa ob, Option.bind_some]
    refine Ev.bind (rthan_ev oa ob _ _) ?_
    simp only [beq_self_eq_true]
    exact Ev.now _
end Go.Proofs.Ytkcdpnigcbcalaa.Pure
