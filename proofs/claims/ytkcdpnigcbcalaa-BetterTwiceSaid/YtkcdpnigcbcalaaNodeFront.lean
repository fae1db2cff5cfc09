/- Which nodes leave others without use, and which of any are left, by the program: the front in plain Lean. No condition. -/
import Derived.Test.YtkcdpnigcbcalaaPBx2
import Derived.Test.YtkcdpnigcbcalaaPBx4
import Derived.Test.YtkcdpnigcbcalaaNodeBase
import Derived.Test.YtkcdpnigcbcalaaFrontPure
namespace Go.Proofs.Ytkcdpnigcbcalaa.Sets
open Go.RowKit Go.Proofs.Ytkcdpnigcbcalaa.PB Go.Proofs.YtkcdpnigcbcalaaW.PrintWords Go.Proofs.YtkcdpnigcbcalaaW.PrintLast Go.Proofs.Ytkcdpnigcbcalaa.FrontPure
set_option linter.unusedVariables false
set_option linter.unusedSimpArgs false
abbrev Nd := S37
instance : Inhabited Nd := ⟨z37⟩
def ON (x : Nd) : Prop := OK x.f0
theorem on_wf {x : Nd} (h : wf_t37 x) : ON x := ok_wf h.1
def Th (a b : Nd) : Prop := a.f1 ≤ b.f1 ∧ (a.f0.f5 = b.f0.f5 ∧ a.f0.f6 = b.f0.f6 ∧ a.f0.f7 = b.f0.f7) ∧ Cov a.f0 b.f0
instance (a b : Nd) : Decidable (Th a b) := inferInstanceAs (Decidable (_ ∧ _))
def th (a b : Nd) : Bool := decide (Th a b)
theorem th_refl (a : Nd) : th a a = true := decide_eq_true ⟨by omega, ⟨rfl, rfl, rfl⟩, cov_refl _⟩
theorem th_trans (a b c : Nd) (h : th a b = true) (h' : th b c = true) : th a c = true := by
  have h := of_decide_eq_true h
  have h' := of_decide_eq_true h'
  exact decide_eq_true ⟨Int.le_trans h.1 h'.1, ⟨h.2.1.1.trans h'.2.1.1, h.2.1.2.1.trans h'.2.1.2.1, h.2.1.2.2.trans h'.2.1.2.2⟩, cov_trans h.2.2 h'.2.2⟩
theorem than_th {a b : Nd} (ha : ON a) (hb : ON b) (l m : List Int) : better_Than.f a.f0.f0 a.f0.f1 a.f0.f2 a.f0.f3 a.f0.f4 a.f0.f5 a.f0.f6 a.f0.f7 a.f1 l b.f0.f0 b.f0.f1 b.f0.f2 b.f0.f3 b.f0.f4 b.f0.f5 b.f0.f6 b.f0.f7 b.f1 m = some (th a b) := by
  unfold better_Than.f
  by_cases h1 : a.f1 ≤ b.f1
  · rw [if_pos h1]
    by_cases h2 : a.f0.f5 = b.f0.f5 ∧ a.f0.f6 = b.f0.f6 ∧ a.f0.f7 = b.f0.f7
    · rw [if_pos (by simp [h2]), covers_eq ha hb]
      congr 1
      exact decide_eq_decide.2 ⟨fun h => ⟨h1, h2, h⟩, fun h => h.2.2⟩
    · rw [if_neg (by simpa using h2)]
      have : ¬ Th a b := fun h => h2 h.2.1
      rw [show th a b = false from decide_eq_false this]
  · rw [if_neg h1]
    have : ¬ Th a b := fun h => h1 h.1
    rw [show th a b = false from decide_eq_false this]
theorem thanS_th {a b : Nd} (ha : ON a) (hb : ON b) : thanS a b = th a b := by unfold thanS; rw [than_th ha hb]; rfl
theorem front_eq {l : List Nd} (hl : ∀ x, x ∈ l → ON x) (hn : l.length ≤ 100000) (hp : ∀ x, x ∈ l → x.f2.length ≤ 100000) : better_Front.f l = some (frontL th l) := by
  unfold better_Front.f
  rw [if_pos ⟨hn, List.all_eq_true.2 (fun x hx => decide_eq_true (hp x hx))⟩]
  rw [frontL_congr thanS th l (fun x hx y hy => thanS_th (hl x hx) (hl y hy))]
theorem awake_eq : haulierlaw13_awake.f = some true := by decide
theorem few_loop (l : List Nd) (hl : l.length ≤ 60) (d : Nat) : ∀ i : Nat, i + d = l.length → Ev (fun k => haulierlaw13_Few.l0 k l (i : Int)) ((l.drop i).all fun x => decide (x.f2.length ≤ 100)) := by
  induction d with
  | zero =>
    intro i hi
    rw [List.drop_of_length_le (by omega)]
    refine Ev.step (f := fun _ => some true) (fun k => ?_) (Ev.now _)
    simp only [haulierlaw13_Few.l0]
    rw [if_neg (by omega)]
  | succ d ih =>
    intro i hi
    have hlt : i < l.length := by omega
    rw [List.drop_eq_getElem_cons hlt, List.all_cons]
    by_cases h : l[i].f2.length ≤ 100
    · rw [decide_eq_true h, Bool.true_and]
      refine Ev.step (fun k => ?_) (ih (i + 1) (by omega))
      simp only [haulierlaw13_Few.l0]
      rw [if_pos (by omega), if_pos (by omega), rd_T_at hlt, if_neg (by omega), nxt (by omega)]
    · rw [decide_eq_false h, Bool.false_and]
      refine Ev.step (f := fun _ => some false) (fun k => ?_) (Ev.now _)
      simp only [haulierlaw13_Few.l0]
      rw [if_pos (by omega), if_pos (by omega), rd_T_at hlt, if_pos (by omega)]
def Few (l : List Nd) : Bool := decide (l.length ≤ 60) && l.all fun x => decide (x.f2.length ≤ 100)
theorem few_ev (l : List Nd) : Ev (fun k => haulierlaw13_Few.f k l) (Few l) := by
  unfold Few
  by_cases h : l.length ≤ 60
  · rw [decide_eq_true h, Bool.true_and]
    refine Ev.congr (fun k => ?_) (few_loop l h l.length 0 (by omega))
    simp only [haulierlaw13_Few.f]
    rw [if_neg (by omega)]
    rfl
  · rw [decide_eq_false h, Bool.false_and]
    refine Ev.congr (f := fun _ => some false) (fun k => ?_) (Ev.now _)
    simp only [haulierlaw13_Few.f]
    rw [if_pos (by omega)]
theorem few_front {l : List Nd} (h : Few l = true) (hl : ∀ x, x ∈ l → ON x) : better_Front.f l = some (frontL th l) := by
  unfold Few at h
  rw [Bool.and_eq_true] at h
  have h1 := of_decide_eq_true h.1
  have h2 := List.all_eq_true.1 h.2
  exact front_eq hl (by omega) (fun x hx => by have := of_decide_eq_true (h2 x hx); omega)
end Go.Proofs.Ytkcdpnigcbcalaa.Sets
