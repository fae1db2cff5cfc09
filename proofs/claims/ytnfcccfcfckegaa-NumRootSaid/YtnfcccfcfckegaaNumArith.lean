/- Sums, differences and products of layer 1, and the chapter's examples, told by plain numbers. No condition. -/
import Derived.Test.YtnfcccfcfckegaaPAx5
import Derived.Test.YtnfcccfcfckegaaPAx6
import Derived.Test.YtnfcccfcfckegaaPAx1
import Derived.Test.YtnfcccfcfckegaaNumBase
namespace Go.Proofs.Ytnfcccfcfckegaa.Num
open Go.RowKit Go.Proofs.Ytnfcccfcfckegaa.PA Go.Proofs.YtnfcccfcfckegaaW.PrintWords Go.Proofs.YtnfcccfcfckegaaW.PrintLast

theorem Ev.mono {α : Type} {g : Nat → Option α} {r q : α} (h : Ev g r) (e : r = q) : Ev g q := e ▸ h
theorem Ev.succ {α : Type} {g : Nat → Option α} {r : α} (h : Ev (fun k => g (k + 1)) r) : Ev g r := Ev.step (fun _ => rfl) h
theorem two_le (a b : Int) : ([a, b] : List Int).length ≤ maxLen := by simp [maxLen]
theorem one_le (a : Int) : ([a] : List Int).length ≤ maxLen := by simp [maxLen]

def addR (a b : Int) : Int × Int := if safeB a = true ∧ safeB b = true ∧ safeB (a + b) = true then (a + b, 0) else (0, 9)
def subR (a b : Int) : Int × Int := if safeB a = true ∧ safeB b = true ∧ safeB (a - b) = true then (a - b, 0) else (0, 9)
def mulR (a b : Int) : Int × Int := if safeB a = true ∧ safeB b = true ∧ safeB (a * b) = true then (a * b, 0) else (0, 9)

theorem add_ev (a b : Int) : Ev (fun k => num_Add.f k a b) (addR a b) := by
  unfold num_Add.f addR
  refine Ev.bind (safe_ev _ (two_le a b)) ?_
  by_cases ha : safeB a = true
  · by_cases hb : safeB b = true
    · have ha' := (safeB_iff a).1 ha
      have hb' := (safeB_iff b).1 hb
      simp only [List.all_cons, List.all_nil, ha, hb, Bool.and_true, if_true, true_and]
      rw [w64 (x := a + b) (by omega) (by omega)]
      refine Ev.bind (safe_ev _ (one_le _)) ?_
      simp only [List.all_cons, List.all_nil, Bool.and_true]
      by_cases hc : safeB (a + b) = true
      · simp only [hc, if_true]; exact Ev.now _
      · simp only [hc]; exact Ev.now _
    · simp only [List.all_cons, List.all_nil, hb, Bool.and_true, Bool.and_false, false_and, and_false, if_false, Bool.false_eq_true]; exact Ev.now _
  · simp only [List.all_cons, List.all_nil, ha, Bool.and_true, Bool.false_and, false_and, if_false, Bool.false_eq_true]; exact Ev.now _
theorem sub_ev (a b : Int) : Ev (fun k => num_Sub.f k a b) (subR a b) := by
  unfold num_Sub.f subR
  refine Ev.bind (safe_ev _ (two_le a b)) ?_
  by_cases ha : safeB a = true
  · by_cases hb : safeB b = true
    · have ha' := (safeB_iff a).1 ha
      have hb' := (safeB_iff b).1 hb
      simp only [List.all_cons, List.all_nil, ha, hb, Bool.and_true, if_true, true_and]
      rw [w64 (x := -b) (by omega) (by omega)]
      refine Ev.bind (add_ev _ _) ?_
      unfold addR
      have hn : safeB (-b) = true := (safeB_iff _).2 (by omega)
      have e : a + -b = a - b := by omega
      simp only [ha, hn, true_and, e]
      exact Ev.now _
    · simp only [List.all_cons, List.all_nil, hb, Bool.and_true, Bool.and_false, false_and, and_false, if_false, Bool.false_eq_true]; exact Ev.now _
  · simp only [List.all_cons, List.all_nil, ha, Bool.and_true, Bool.false_and, false_and, if_false, Bool.false_eq_true]; exact Ev.now _

theorem size_f {a : Int} (h : safeB a = true) : num_size.f a = some ((a.natAbs : Nat) : Int) := by
  have h' := (safeB_iff a).1 h
  unfold num_size.f mx
  rw [w64 (x := -a) (by omega) (by omega)]
  split
  · rw [u64w (by omega) (by omega)]; congr 1; omega
  · rw [u64w (by omega) (by omega)]; congr 1; omega
theorem abs_mul_bd {a b : Int} (ha : safeB a = true) (hb : safeB b = true) : a.natAbs ≤ 1152921504606846976 ∧ b.natAbs ≤ 1152921504606846976 := by
  have h' := (safeB_iff a).1 ha
  have h'' := (safeB_iff b).1 hb
  omega
theorem safe_mul_iff (a b : Int) : safeB (a * b) = true ↔ a.natAbs * b.natAbs ≤ 1152921504606846976 := by
  rw [safeB_iff, ← Int.natAbs_mul]
  omega
theorem mul_ev (a b : Int) : Ev (fun k => num_Mul.f k a b) (mulR a b) := by
  unfold num_Mul.f mulR
  refine Ev.bind (safe_ev _ (two_le a b)) ?_
  by_cases ha : safeB a = true
  · by_cases hb : safeB b = true
    · obtain ⟨la, lb⟩ := abs_mul_bd ha hb
      simp only [List.all_cons, List.all_nil, ha, hb, Bool.and_true, if_true, true_and]
      rw [size_f ha, size_f hb]
      simp only [Option.bind_some]
      rw [mul64_f _ _ (by omega) (by omega)]
      simp only [Option.bind_some]
      have hs := safe_mul_iff a b
      generalize hp : a.natAbs * b.natAbs = p at *
      by_cases hc : safeB (a * b) = true
      · have hp' := hs.1 hc
        have hc' := (safeB_iff _).1 hc
        rw [if_neg (by omega), if_neg (by omega), if_pos hc, w64 (by omega) (by omega)]
        exact Ev.now _
      · have hp' : ¬ p ≤ 1152921504606846976 := fun h => hc (hs.2 h)
        rw [if_neg hc]
        by_cases h1 : ((p / 18446744073709551616 : Nat) : Int) > 0
        · rw [if_pos h1]; exact Ev.now _
        · rw [if_neg h1, if_pos (by omega)]; exact Ev.now _
    · simp only [List.all_cons, List.all_nil, hb, Bool.and_true, Bool.and_false, false_and, and_false, if_false, Bool.false_eq_true]; exact Ev.now _
  · simp only [List.all_cons, List.all_nil, ha, Bool.and_true, Bool.false_and, false_and, if_false, Bool.false_eq_true]; exact Ev.now _

theorem awake_ev : Ev (fun k => haulierlaw01_awake.f k) true := by
  unfold haulierlaw01_awake.f
  refine Ev.bind (mul_ev _ _) ?_
  rw [root_f, root_f]
  rw [root_unique (m := capS 2) (r := 2) (by decide) (by decide) (by decide) (by decide) (by decide), root_unique (m := capS 25) (r := 5) (by decide) (by decide) (by decide) (by decide) (by decide)]
  simp only [Option.bind_some, if_true]
  refine Ev.bind (sum_ev _ (by simp [maxLen])) ?_
  have e1 : sumS 0 [1, 1152921504606846976, 3] = 1152921504606846976 := by decide
  have e2 : mulR 1073741824 2147483648 = (0, 9) := by decide
  rw [e1, e2]
  exact Ev.now _

end Go.Proofs.Ytnfcccfcfckegaa.Num
