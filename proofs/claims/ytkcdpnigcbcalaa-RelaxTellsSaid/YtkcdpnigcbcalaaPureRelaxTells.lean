import Derived.Test.YtkcdpnigcbcalaaDefRelaxTells
import Derived.Test.YtkcdpnigcbcalaaRelaxBase
namespace Go.Proofs.Ytkcdpnigcbcalaa.Pure
open Go.RowKit Go.Proofs.Ytkcdpnigcbcalaa.PA Go.Proofs.YtkcdpnigcbcalaaW.PrintWords Go.Proofs.YtkcdpnigcbcalaaW.PrintLast Go.Proofs.Ytkcdpnigcbcalaa.Sets Go.Proofs.Ytkcdpnigcbcalaa.Rel
theorem RelaxTells : haulierlaw11_RelaxTells.Claim := by
  intro a b l ha hb hl
  apply Ev.rounds
  have oa := ok_wf ha
  have ob := ok_wf hb
  have ol : ∀ t ∈ l, OK t := fun t ht => ok_wf (hl.2 t ht)
  simp only [haulierlaw11_RelaxTells.f, awake_eq, Option.bind_some, if_true]
  apply Ev.succ
  simp only [haulierlaw11_RelaxTells.j0]
  by_cases h60 : (l.length : Int) > 60
  · simp only [h60, decide_true, if_true]
    exact Ev.now _
  · simp only [h60, decide_false, Bool.false_eq_true, if_false]
    rw [join_eq (by omega)]
    simp only [Option.bind_some]
    refine Ev.bind (rjoin_ev l (by omega) ol) ?_
    simp only [beq_self_eq_true, Bool.and_self, if_true, covers_eq oa ob, Option.bind_some]
    refine Ev.bind (rcovers_ev oa ob) ?_
    simp only [beq_self_eq_true]
    exact Ev.now _
end Go.Proofs.Ytkcdpnigcbcalaa.Pure
