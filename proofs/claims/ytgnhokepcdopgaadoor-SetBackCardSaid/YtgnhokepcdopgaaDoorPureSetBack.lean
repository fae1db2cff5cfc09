import Derived.Test.YtgnhokepcdopgaaDoorDefSetBack
import Derived.Test.YtgnhokepcdopgaaDoorSetB
namespace Go.Proofs.YtgnhokepcdopgaaDoor.Pure
open Go.RowKit Go.Proofs.YtgnhokepcdopgaaDoor.PA Go.Proofs.YtgnhokepcdopgaaDoorW.PrintWords Go.Proofs.YtgnhokepcdopgaaDoorW.PrintLast Go.Proofs.YtgnhokepcdopgaaDoor.Sets
theorem SetBack : haulierlaw02_SetBack.Claim := by
  intro s i j hs hi hj
  obtain ⟨s, rfl, ls⟩ := wfu_nat hs
  refine Ev.rounds ?_
  simp only [haulierlaw02_SetBack.f]
  refine Ev.bind awake_ev ?_
  simp only [if_true]
  have out : Ev (fun k => haulierlaw02_SetBack.j0 k (s : Int) i j true true) true := by
    apply Ev.succ
    simp only [haulierlaw02_SetBack.j0, if_true]
    exact Ev.now _
  by_cases h0 : i < 0
  · simp only [if_pos h0]; exact out
  simp only [if_neg h0]
  by_cases h1 : i > 63
  · simp only [decide_eq_true h1]; exact out
  simp only [decide_eq_false h1]
  obtain ⟨n, rfl⟩ : ∃ n : Nat, i = n := ⟨i.toNat, by omega⟩
  have hn : n < 64 := by omega
  apply Ev.succ
  have lp := bitN_lt (n : Int)
  have lw := Nat.or_lt_two_pow ls lp
  have lo := andN_lt s (bitN (n : Int))
  have fin : ∀ q, q = true → Ev (fun k => haulierlaw02_SetBack.j1 k (s : Int) (n : Int) ((s ||| bitN (n : Int) : Nat) : Int) ((andN s (bitN (n : Int)) : Nat) : Int) q) true := by
    rintro q rfl
    apply Ev.succ
    have bp : ∀ k : Nat, (bitN (n : Int)).testBit k = decide (n = k) := by
      intro k
      rw [bitN_bit, decide_eq_decide]
      omega
    have c1 : hasB (s ||| bitN (n : Int)) (n : Int) = true := by
      unfold hasB
      rw [decide_eq_true (by omega), Bool.true_and, Nat.testBit_or, bp]
      simp
    have c2 : hasB (andN s (bitN (n : Int))) (n : Int) = false := by
      unfold hasB
      rw [show ((n : Int)).toNat = n by omega, andN_bit _ _ hn, bp]
      simp
    have c3 : andN (s ||| bitN (n : Int)) (bitN (n : Int)) = andN s (bitN (n : Int)) := bits_ext (andN_lt _ _) lo (fun k hk => by
      rw [andN_bit _ _ hk, andN_bit _ _ hk, Nat.testBit_or]
      cases s.testBit k <;> cases (bitN (n : Int)).testBit k <;> rfl)
    have c4 : andN s (bitN (n : Int)) ||| bitN (n : Int) = s ||| bitN (n : Int) := bits_ext (Nat.or_lt_two_pow lo lp) lw (fun k hk => by
      rw [Nat.testBit_or, andN_bit _ _ hk, Nat.testBit_or]
      cases s.testBit k <;> cases (bitN (n : Int)).testBit k <;> rfl)
    have c5 : Sub (andN s (bitN (n : Int))) s := fun k hk h => by
      rw [andN_bit _ _ hk, Bool.and_eq_true] at h
      exact h.1
    have c6 : Sub s (s ||| bitN (n : Int)) := fun k _ h => by rw [Nat.testBit_or, h]; rfl
    simp only [haulierlaw02_SetBack.j1, has_eq lw, has_eq lo, without_eq, with_eq lo, within_eq, Option.bind_some, c1, c2, c3, c4, decide_eq_true c5, decide_eq_true c6, if_true, Bool.false_eq_true, if_false]
    exact Ev.now _
  simp only [haulierlaw02_SetBack.j0, with_eq ls, without_eq, Option.bind_some, Bool.false_eq_true, if_false, has_eq ls, has_eq lw, has_eq lo]
  by_cases hij : (n : Int) = j
  · simp only [if_pos hij]
    exact fin _ rfl
  have bj : ∀ k : Nat, j = (k : Int) → (bitN (n : Int)).testBit k = false := by
    intro k hk
    rw [bitN_bit, decide_eq_false_iff_not]
    omega
  have d1 : hasB (s ||| bitN (n : Int)) j = hasB s j := by
    unfold hasB
    by_cases hj : 0 ≤ j ∧ j ≤ 63
    · rw [Nat.testBit_or, bj j.toNat (by omega), Bool.or_false]
    · rw [decide_eq_false hj]; rfl
  have d2 : hasB (andN s (bitN (n : Int))) j = hasB s j := by
    unfold hasB
    by_cases hj : 0 ≤ j ∧ j ≤ 63
    · rw [andN_bit _ _ (by omega), bj j.toNat (by omega), Bool.not_false, Bool.and_true]
    · rw [decide_eq_false hj]; rfl
  simp only [if_neg hij, d1, d2, BEq.rfl, if_true]
  exact fin _ rfl
end Go.Proofs.YtgnhokepcdopgaaDoor.Pure
