import Derived.Test.YtgnhokepcdopgaaDoorDefSetTells
import Derived.Test.YtgnhokepcdopgaaDoorSetRef
namespace Go.Proofs.YtgnhokepcdopgaaDoor.Pure
open Go.RowKit Go.Proofs.YtgnhokepcdopgaaDoor.PA Go.Proofs.YtgnhokepcdopgaaDoorW.PrintWords Go.Proofs.YtgnhokepcdopgaaDoorW.PrintLast Go.Proofs.YtgnhokepcdopgaaDoor.Sets
theorem SetTells : haulierlaw02_SetTells.Claim := by
  intro a b i ha hb hi
  obtain ⟨a, rfl, la⟩ := wfu_nat ha
  obtain ⟨b, rfl, lb⟩ := wfu_nat hb
  refine Ev.rounds ?_
  simp only [haulierlaw02_SetTells.f]
  refine Ev.bind awake_ev ?_
  refine Ev.bind (all_ev la) ?_
  rw [all_eq la]
  refine Ev.bind (Ev.now _) ?_
  refine Ev.bind (same_ev _ (from_len _ _ _)) ?_
  have L := len_eq la
  rw [← all_len] at L
  generalize (from_ a 0 64).length = q at L ⊢
  have e0 : (hasB a i == hasB a i) = true := BEq.rfl
  simp only [if_true, has_eq la, Option.bind_some]
  refine Ev.bind (has_ev_any la i) ?_
  simp only [e0, if_true, L, Option.bind_some]
  rw [within_eq]
  refine Ev.bind (Ev.now _) ?_
  refine Ev.bind (within_ev la lb) ?_
  have e : (decide (Sub a b) == decide (Sub a b)) = true := BEq.rfl
  rw [e]
  exact Ev.now _
end Go.Proofs.YtgnhokepcdopgaaDoor.Pure
