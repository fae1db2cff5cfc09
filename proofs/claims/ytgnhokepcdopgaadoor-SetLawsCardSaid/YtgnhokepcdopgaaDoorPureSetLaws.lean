import Derived.Test.YtgnhokepcdopgaaDoorDefSetLaws
import Derived.Test.YtgnhokepcdopgaaDoorSetLen
namespace Go.Proofs.YtgnhokepcdopgaaDoor.Pure
open Go.RowKit Go.Proofs.YtgnhokepcdopgaaDoor.PA Go.Proofs.YtgnhokepcdopgaaDoorW.PrintWords Go.Proofs.YtgnhokepcdopgaaDoorW.PrintLast Go.Proofs.YtgnhokepcdopgaaDoor.Sets
theorem cnt_incl : ∀ (d a b : Nat), cnt d (a ||| b) + cnt d (a &&& b) = cnt d a + cnt d b
  | 0, _, _ => rfl
  | d + 1, a, b => by
    have h1 : (a ||| b) / 2 = a / 2 ||| b / 2 := Nat.or_div_two_pow (n := 1)
    have h2 : (a &&& b) / 2 = a / 2 &&& b / 2 := Nat.and_div_two_pow (n := 1)
    have h3 : (a ||| b) % 2 = a % 2 ||| b % 2 := Nat.or_mod_two_pow (n := 1)
    have h4 : (a &&& b) % 2 = a % 2 &&& b % 2 := Nat.and_mod_two_pow (n := 1)
    have ih := cnt_incl d (a / 2) (b / 2)
    have h5 : ∀ x, x < 2 → ∀ y, y < 2 → (x ||| y) + (x &&& y) = x + y := by decide
    have h6 := h5 (a % 2) (by omega) (b % 2) (by omega)
    simp only [cnt, h1, h2, h3, h4]
    omega
theorem cnt_le : ∀ (d x : Nat), cnt d x ≤ d
  | 0, _ => Nat.le_refl _
  | d + 1, x => by
    have := cnt_le d (x / 2)
    simp only [cnt]
    omega
theorem hasB_and (a b : Nat) (i : Int) : hasB (a &&& b) i = (hasB a i && hasB b i) := by
  unfold hasB
  rw [Nat.testBit_and]
  cases decide (0 ≤ i ∧ i ≤ 63) <;> simp
theorem hasB_or (a b : Nat) (i : Int) : hasB (a ||| b) i = (hasB a i || hasB b i) := by
  unfold hasB
  rw [Nat.testBit_or]
  cases decide (0 ≤ i ∧ i ≤ 63) <;> simp
theorem SetLaws : haulierlaw02_SetLaws.Claim := by
  intro a b i ha hb hi
  obtain ⟨a, rfl, la⟩ := wfu_nat ha
  obtain ⟨b, rfl, lb⟩ := wfu_nat hb
  refine Ev.rounds ?_
  simp only [haulierlaw02_SetLaws.f]
  refine Ev.bind awake_ev ?_
  have lo := Nat.or_lt_two_pow la lb
  have ln : a &&& b < 2 ^ 64 := Nat.and_lt_two_pow _ lb
  have fin : ∀ p q, p = (hasB a i && hasB b i) → q = (hasB a i || hasB b i) → Ev (fun k => haulierlaw02_SetLaws.j1 k (a : Int) (b : Int) i true p q) true := by
    rintro p q rfl rfl
    apply Ev.succ
    have c1 := cnt_incl 64 a b
    have L1 := len_eq lo
    have L2 := len_eq ln
    have L3 := len_eq la
    have L4 := len_eq lb
    generalize cnt 64 (a ||| b) = p1 at L1 c1
    generalize cnt 64 (a &&& b) = p2 at L2 c1
    generalize cnt 64 a = p3 at L3 c1
    generalize cnt 64 b = p4 at L4 c1
    have c2 : (p1 : Int) + (p2 : Int) = (p3 : Int) + (p4 : Int) := by omega
    have s1 : Sub (a &&& b) a := fun k _ h => by rw [Nat.testBit_and, Bool.and_eq_true] at h; exact h.1
    have s2 : Sub a (a ||| b) := fun k _ h => by rw [Nat.testBit_or, h]; rfl
    simp only [haulierlaw02_SetLaws.j1, and_u la lb, or_u la lb, has_eq lo, has_eq ln, Option.bind_some, if_true, hasB_and, hasB_or, BEq.rfl]
    have W1 : set_Within.f ((a &&& b : Nat) : Int) (a : Int) = some true := by rw [within_eq, decide_eq_true s1]
    have W2 : set_Within.f (a : Int) ((a ||| b : Nat) : Int) = some true := by rw [within_eq, decide_eq_true s2]
    rw [L1, L2, L3, L4]
    refine Ev.bind (Ev.now _) ?_
    refine Ev.bind (Ev.now _) ?_
    refine Ev.bind (Ev.now _) ?_
    refine Ev.bind (Ev.now _) ?_
    have e : wrap64 ((p1 : Int) + (p2 : Int)) = wrap64 ((p3 : Int) + (p4 : Int)) := by rw [c2]
    generalize wrap64 ((p1 : Int) + (p2 : Int)) = w1 at e ⊢
    generalize wrap64 ((p3 : Int) + (p4 : Int)) = w2 at e ⊢
    subst e
    simp only [W1, W2, Option.bind_some, if_true]
    exact Ev.now _
  simp only [has_eq la, has_eq lb, Option.bind_some]
  cases h1 : hasB a i with
  | true =>
    simp only [if_true]
    apply Ev.succ
    simp only [haulierlaw02_SetLaws.j0, has_eq la, h1, Option.bind_some, if_true]
    exact fin _ _ (by rw [h1]; simp) (by rw [h1]; simp)
  | false =>
    simp only [Bool.false_eq_true, if_false]
    apply Ev.succ
    simp only [haulierlaw02_SetLaws.j0, has_eq la, has_eq lb, h1, Option.bind_some, Bool.false_eq_true, if_false]
    exact fin _ _ (by rw [h1]; simp) (by rw [h1]; simp)
end Go.Proofs.YtgnhokepcdopgaaDoor.Pure
