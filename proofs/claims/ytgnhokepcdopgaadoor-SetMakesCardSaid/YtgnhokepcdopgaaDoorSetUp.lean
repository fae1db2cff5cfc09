/- set.Upto. -/
import Derived.Test.YtgnhokepcdopgaaDoorSetB
namespace Go.Proofs.YtgnhokepcdopgaaDoor.Sets
open Go.RowKit Go.Proofs.YtgnhokepcdopgaaDoor.PA Go.Proofs.YtgnhokepcdopgaaDoorW.PrintWords Go.Proofs.YtgnhokepcdopgaaDoorW.PrintLast
def upN (j : Nat) : Nat := 2 ^ (j + 1) - 2
theorem upN_lt : ∀ j, j < 64 → upN j < 2 ^ 64 := by decide +kernel
theorem upN_step : ∀ j, j < 63 → upN j ||| 2 ^ (j + 1) = upN (j + 1) := by decide +kernel
theorem upto_loop (n : Nat) (hn : n ≤ 63) (d : Nat) : ∀ j, j + d = n → Ev (fun k => set_Upto.l0 k ((upN j : Nat) : Int) (n : Int) (j : Int)) ((upN n : Nat) : Int) := by
  induction d with
  | zero =>
    intro j hj
    obtain rfl : j = n := by omega
    refine Ev.step (f := fun _ => some _) (fun k => ?_) (Ev.now _)
    simp only [set_Upto.l0]
    rw [if_neg (by omega)]
  | succ d ih =>
    intro j hj
    refine Ev.step (fun k => ?_) (ih (j + 1) (by omega))
    simp only [set_Upto.l0]
    rw [if_pos (by omega), nxt (by omega)]
    have e : bitN ((j + 1 : Nat) : Int) = 2 ^ (j + 1) := by unfold bitN; rw [if_pos (by omega)]; rfl
    simp only [bit_eq, Option.bind_some]
    rw [or_u (upN_lt j (by omega)) (bitN_lt _), e, upN_step j (by omega)]
theorem upto_ev (n : Nat) (hn : n ≤ 63) : Ev (fun k => set_Upto.f k (n : Int)) ((upN n : Nat) : Int) := by
  have h := upto_loop n hn n 0 (by omega)
  have e : mn (mx (n : Int) 0) 63 = (n : Int) := by
    unfold mn mx
    repeat' split
    all_goals omega
  simp only [set_Upto.f, e]
  exact h
end Go.Proofs.YtgnhokepcdopgaaDoor.Sets
