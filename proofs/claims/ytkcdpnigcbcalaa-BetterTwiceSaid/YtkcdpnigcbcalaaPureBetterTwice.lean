import Derived.Test.YtkcdpnigcbcalaaPBx9
import Derived.Test.YtkcdpnigcbcalaaDefBetterTwice
import Derived.Test.YtkcdpnigcbcalaaNodeSame
namespace Go.Proofs.Ytkcdpnigcbcalaa.Pure
open Go.RowKit Go.Proofs.Ytkcdpnigcbcalaa.PB Go.Proofs.YtkcdpnigcbcalaaW.PrintWords Go.Proofs.YtkcdpnigcbcalaaW.PrintLast Go.Proofs.Ytkcdpnigcbcalaa.Sets Go.Proofs.Ytkcdpnigcbcalaa.FrontPure
theorem BetterTwice : haulierlaw13_BetterTwice.Claim := by
  intro l hl
  apply Ev.rounds
  have ol : ∀ x, x ∈ l → ON x := fun x hx => on_wf (hl.2 x hx)
  simp only [haulierlaw13_BetterTwice.f, awake_eq, Option.bind_some, if_true]
  refine Ev.bind (few_ev l) ?_
  cases hF : Few l with
  | false => simp only [Bool.false_eq_true, if_false]; exact Ev.now _
  | true =>
    simp only [if_true]
    by_cases h30 : l.length ≤ 30
    · simp only [if_pos h30]
      simp only [haulierlaw13_BetterTwice.g]
      unfold Few at hF
      rw [Bool.and_eq_true] at hF
      have hp : ∀ x, x ∈ l → x.f2.length ≤ 100 := fun x hx => of_decide_eq_true (List.all_eq_true.1 hF.2 x hx)
      have hf : ∀ x, x ∈ frontL th l → ON x := fun x hx => ol x (frontL_mem hx)
      have hpf : ∀ x, x ∈ frontL th l → x.f2.length ≤ 100 := fun x hx => hp x (frontL_mem hx)
      have hlen := frontL_length (th := th) l
      rw [front_eq ol (by omega) (fun x hx => by have := hp x hx; omega)]
      simp only [Option.bind_some]
      rw [front_eq hf (by omega) (fun x hx => by have := hpf x hx; omega), frontL_again]
      simp only [Option.bind_some]
      refine Ev.bind (same_ev _ (by omega) hpf) ?_
      have hm : ∀ x, x ∈ l ++ l → x ∈ l := fun x hx => by rcases List.mem_append.1 hx with h | h <;> exact h
      have h2 : better_Front.f (l ++ l) = some (frontL th l) := by
        rw [front_eq (fun x hx => ol x (hm x hx)) (by rw [List.length_append]; omega) (fun x hx => Nat.le_trans (hp x (hm x hx)) (by decide)), frontL_twice th_refl th_trans]
      rw [h2]
      simp only [Option.bind_some]
      refine Ev.bind (same_ev _ (by omega) hpf) ?_
      exact Ev.now _
    · simp only [if_neg h30]
      exact Ev.now _
end Go.Proofs.Ytkcdpnigcbcalaa.Pure
