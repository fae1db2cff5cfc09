import Derived.Test.YtdkhajgfifaibaaDoorScanOut
import Derived.Test.YtdkhajgfifaibaaDoorPAx13
/-! Lists of lines are the same as themselves. -/
namespace Go.Proofs.YtdkhajgfifaibaaDoor.Scan
open Go.RowKit Go.Proofs.YtdkhajgfifaibaaDoorW.PrintWords Go.Proofs.YtdkhajgfifaibaaDoorW.PrintLast Go.Proofs.YtdkhajgfifaibaaDoor.PA
set_option linter.unusedVariables false
theorem same_l1 (x : List (List Int)) (hx : x.length ≤ 10000) (hy : ∀ l ∈ x, l.length ≤ 100000) (i : Nat) (hi : i < x.length) (hnext : Ev (fun k => haulierref04_Same.l0 k x x ((i + 1 : Nat) : Int)) true) : ∀ (d j : Nat), j + d = (rd_L1 x (i : Int)).length → Ev (fun k => haulierref04_Same.l1 k x x (i : Int) (j : Int)) true := by
  have hm : rd_L1 x (i : Int) = x[i] := by simp [rd_L1, List.getD, List.getElem?_eq_getElem hi]
  have hb : (rd_L1 x (i : Int)).length ≤ 100000 := by rw [hm]; exact hy _ (List.getElem_mem hi)
  intro d
  induction d with
  | zero =>
    intro j hj
    refine Ev.step (f := fun k => haulierref04_Same.l0 k x x ((i + 1 : Nat) : Int)) (fun k => ?_) hnext
    simp only [haulierref04_Same.l1]
    rw [if_pos (by omega), if_pos (by omega), if_neg (by omega), wrapS (by omega) (by omega)]; rfl
  | succ d ih =>
    intro j hj
    refine Ev.step (f := fun k => haulierref04_Same.l1 k x x (i : Int) ((j + 1 : Nat) : Int)) (fun k => ?_) (ih (j + 1) (by omega))
    simp only [haulierref04_Same.l1]
    rw [if_pos (by omega), if_pos (by omega), if_pos (by omega), if_pos (by omega), if_pos (by omega), if_pos (by omega), if_pos trivial, wrapS (by omega) (by omega)]; rfl
theorem same_refl (x : List (List Int)) (hx : x.length ≤ 10000) (hy : ∀ l ∈ x, l.length ≤ 100000) : Ev (fun k => haulierref04_Same.f k x x) true := by
  have h : ∀ (d i : Nat), i + d = x.length → Ev (fun k => haulierref04_Same.l0 k x x (i : Int)) true := by
    intro d
    induction d with
    | zero =>
      intro i hi
      refine Ev.step (f := fun _ => some true) (fun k => ?_) (Ev.now _)
      simp only [haulierref04_Same.l0]; rw [if_neg (by omega)]
    | succ d ih =>
      intro i hi
      refine Ev.step (f := fun k => haulierref04_Same.l1 k x x (i : Int) ((0 : Nat) : Int)) (fun k => ?_) (same_l1 x hx hy i (by omega) (ih (i + 1) (by omega)) (rd_L1 x (i : Int)).length 0 (by omega))
      simp only [haulierref04_Same.l0]; rw [if_pos (by omega), if_pos (by omega), if_pos (by omega), if_pos trivial]; rfl
  refine Ev.congr (f := fun k => haulierref04_Same.l0 k x x ((0 : Nat) : Int)) (fun k => ?_) (h x.length 0 (by omega))
  simp only [haulierref04_Same.f]; rw [if_pos trivial]; rfl
theorem out_same (b : List Int) : Ev (fun k => haulierref04_Same.f k (linesOut b).1 (linesOut b).1) true := same_refl _ (out_len b).1 (out_len b).2
end Go.Proofs.YtdkhajgfifaibaaDoor.Scan
