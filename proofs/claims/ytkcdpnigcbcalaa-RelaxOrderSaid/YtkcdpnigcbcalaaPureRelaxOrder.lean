import Derived.Test.YtkcdpnigcbcalaaDefRelaxOrder
import Derived.Test.YtkcdpnigcbcalaaRelaxBase
namespace Go.Proofs.Ytkcdpnigcbcalaa.Pure
open Go.RowKit Go.Proofs.Ytkcdpnigcbcalaa.PA Go.Proofs.YtkcdpnigcbcalaaW.PrintWords Go.Proofs.YtkcdpnigcbcalaaW.PrintLast Go.Proofs.Ytkcdpnigcbcalaa.Sets Go.Proofs.Ytkcdpnigcbcalaa.Rel
theorem RelaxOrder : haulierlaw11_RelaxOrder.Claim := by
  intro a b c ha hb hc
  have oa := ok_wf ha
  have ob := ok_wf hb
  have oc := ok_wf hc
  simp only [haulierlaw11_RelaxOrder.f, awake_eq, covers_eq oa ob, covers_eq ob oa, covers_eq ob oc, covers_eq oa oc, covers_eq oa oa, Option.bind_some, decide_eq_true_eq]
  simp only [if_true, if_pos (cov_refl a)]
  have same : (a.f0 == b.f0 && (a.f1 == b.f1 && (a.f2 == b.f2 && (a.f3 == b.f3 && (a.f4 == b.f4 && (a.f5 == b.f5 && (a.f6 == b.f6 && (a.f7 == b.f7)))))))) = decide (Cov a b ∧ Cov b a) := by
    rw [Bool.eq_iff_iff, decide_eq_true_eq]
    constructor
    · intro h
      have e : a = b := by
        cases a
        cases b
        simpa using h
      rw [e]
      exact ⟨cov_refl b, cov_refl b⟩
    · rintro ⟨h, h'⟩
      rw [cov_anti oa ob h h']
      simp
  rw [same]
  by_cases h1 : Cov a b
  · by_cases h2 : Cov b c
    · simp [h1, h2, cov_trans h1 h2]
    · simp [h1, h2]
  · simp [h1]
end Go.Proofs.Ytkcdpnigcbcalaa.Pure
