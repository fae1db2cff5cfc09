/- Whether two lists of nodes are the same, by the document. No condition. -/
import Derived.Test.YtkcdpnigcbcalaaPBx3
import Derived.Test.YtkcdpnigcbcalaaPBx2
import Derived.Test.YtkcdpnigcbcalaaNodeFront
namespace Go.Proofs.Ytkcdpnigcbcalaa.Sets
open Go.RowKit Go.Proofs.Ytkcdpnigcbcalaa.PB Go.Proofs.YtkcdpnigcbcalaaW.PrintWords Go.Proofs.YtkcdpnigcbcalaaW.PrintLast Go.Proofs.Ytkcdpnigcbcalaa.FrontPure
set_option linter.unusedVariables false
set_option linter.unusedSimpArgs false
theorem rd_int {l : List Int} {i : Nat} (h : i < l.length) : rd l (i : Int) = l[i] := by
  unfold rd
  simp [rdOf, List.getD, List.getElem?_eq_getElem h]
theorem same2_loop (l : List Int) (hl : l.length ≤ 100000) (d : Nat) : ∀ i : Nat, i + d = l.length → Ev (fun k => haulierref02_Same.l0 k l l (i : Int)) true := by
  induction d with
  | zero =>
    intro i hi
    refine Ev.step (f := fun _ => some true) (fun k => ?_) (Ev.now _)
    simp only [haulierref02_Same.l0]
    rw [if_neg (by omega)]
  | succ d ih =>
    intro i hi
    refine Ev.step (fun k => ?_) (ih (i + 1) (by omega))
    simp only [haulierref02_Same.l0]
    rw [if_pos (by omega), if_pos (by omega), if_pos (by omega), if_pos trivial, w64 (by omega) (by omega)]
    rfl
theorem same2_ev (l : List Int) (hl : l.length ≤ 100000) : Ev (fun k => haulierref02_Same.f k l l) true := by
  refine Ev.congr (fun k => ?_) (same2_loop l hl l.length 0 (by omega))
  simp only [haulierref02_Same.f]
  rfl
theorem same_loop (l : List Nd) (hl : l.length ≤ 60) (hp : ∀ x, x ∈ l → x.f2.length ≤ 100) (d : Nat) : ∀ i : Nat, i + d = l.length → Ev (fun k => haulierref13_Same.l0 k l l (i : Int)) true := by
  induction d with
  | zero =>
    intro i hi
    refine Ev.step (f := fun _ => some true) (fun k => ?_) (Ev.now _)
    simp only [haulierref13_Same.l0]
    rw [if_neg (by omega)]
  | succ d ih =>
    intro i hi
    have hlt : i < l.length := by omega
    apply Ev.succ
    refine Ev.congr (f := fun q => (haulierref02_Same.f q l[i].f2 l[i].f2).bind fun t => if t = true then haulierref13_Same.l0 q l l ((i + 1 : Nat) : Int) else some false) (fun q => ?_) ?_
    · simp only [haulierref13_Same.l0]
      rw [if_pos (by omega), if_pos (by omega), if_pos (by omega), rd_T_at hlt, nxt (by omega)]
      simp
    · refine Ev.bind (same2_ev _ (by have := hp _ (List.getElem_mem hlt); omega)) ?_
      simp only [if_true]
      exact ih (i + 1) (by omega)
theorem same_ev (l : List Nd) (hl : l.length ≤ 60) (hp : ∀ x, x ∈ l → x.f2.length ≤ 100) : Ev (fun k => haulierref13_Same.f k l l) true := by
  refine Ev.congr (fun k => ?_) (same_loop l hl hp l.length 0 (by omega))
  simp only [haulierref13_Same.f]
  rfl
end Go.Proofs.Ytkcdpnigcbcalaa.Sets
