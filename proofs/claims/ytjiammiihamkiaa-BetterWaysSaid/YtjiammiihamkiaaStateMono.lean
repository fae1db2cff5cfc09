/- Whatever move can be made from a state can be made from one that covers it, costs as much, and what is behind it covers what is behind the other. No program in sight. -/
import Derived.Test.YtjiammiihamkiaaStateBase
namespace Go.Proofs.Ytjiammiihamkiaa.State
open Go.RowKit Go.Proofs.YtjiammiihamkiaaW.PrintWords Go.Proofs.YtjiammiihamkiaaW.PrintLast Go.Proofs.YtjiammiihamkiaaW.PrintMore Go.Proofs.Ytjiammiihamkiaa.PC Go.Proofs.Ytjiammiihamkiaa.Cov
open Go.Proofs.Ytjiammiihamkiaa.Inst (mayB may_ev may_head may_get stopB demB rdS_at)
set_option linter.unusedVariables false
/-- What is known of a stop of an instance that may be. -/
def Fits (s : Sp) : Prop := 0 ≤ s.f3 ∧ s.f3 ≤ 1048576 ∧ s.f4 ≤ 1048576 ∧ 0 ≤ s.f5 ∧ s.f5 ≤ 1000 ∧ -1000 ≤ s.f2 ∧ s.f2 ≤ 1000
theorem may_dem {p c r : Int} {l : List Sp} (h : mayB p c r l = true) (j : Nat) (hj : j < l.length) : -1000 ≤ l[j].f2 ∧ l[j].f2 ≤ 1000 := by
  have hh := may_head h
  have h1 := (may_get h j hj).2
  unfold demB at h1
  by_cases h0 : j = 0
  · rw [if_pos h0] at h1; have := of_decide_eq_true h1; omega
  · rw [if_neg h0] at h1
    by_cases hp : (j : Int) ≤ p
    · rw [if_pos hp] at h1; have := of_decide_eq_true h1; omega
    · rw [if_neg hp] at h1
      have h2 := of_decide_eq_true h1
      obtain ⟨m, hm⟩ : ∃ m : Nat, (j : Int) - p = (m : Int) := ⟨(j - p).toNat, by omega⟩
      have hml : m < l.length := by omega
      rw [hm, w64 (x := (m : Int)) (by omega) (by omega), rdS_at hml] at h2
      have h3 := (may_get h m hml).2
      unfold demB at h3
      rw [if_neg (by omega), if_pos (by omega)] at h3
      have h4 := of_decide_eq_true h3
      rw [w64 (by omega) (by omega)] at h2
      omega
theorem fits {p c r : Int} {l : List Sp} (h : mayB p c r l = true) {j : Int} (h0 : 0 ≤ j) (h1 : j < (l.length : Int)) : Fits (rd_T23 l j) := by
  obtain ⟨m, rfl⟩ : ∃ m : Nat, j = (m : Int) := ⟨j.toNat, by omega⟩
  have hm : m < l.length := by omega
  rw [rdS_at hm]
  have h2 := of_decide_eq_true (show decide _ = true from (may_get h m hm).1)
  have h3 := may_dem h m hm
  unfold Fits
  omega
theorem mx_mono {x y z : Int} (h : x ≤ y) : mx x z ≤ mx y z := by unfold mx; split <;> split <;> omega
theorem mx_l (x z : Int) : z ≤ mx x z := by unfold mx; split <;> omega
/-- A state with numbers that may be, ahead of what is asked of it. -/
def Low (s : St) : Prop := 1 ≤ s.f1 ∧ 0 ≤ s.f2 ∧ 0 ≤ s.f3
def High (s : St) : Prop := s.f1 ≤ 8 ∧ s.f2 ≤ 1073741824 ∧ s.f3 ≤ 1000
theorem begin_mono {l : List Sp} {a b : St} (hc : Cov a b) (ha : Low a) (hb : High b) (j : Int) : beginP l a j ≤ beginP l b j := by
  unfold beginP
  rw [hc.1]
  have hf := farL_bd l b.f0 j
  generalize farL l b.f0 j = f at *
  have h2 := hc.2.2.1
  rw [w64 (by have := ha.2.1; omega) (by have := hb.2.1; omega), w64 (by have := ha.2.1; omega) (by have := hb.2.1; omega)]
  exact mx_mono (by omega)
theorem begin_lo (l : List Sp) (s : St) (j : Int) : (rd_T23 l j).f3 ≤ beginP l s j := mx_l _ _
structure After (a b : St) : Prop where
  cov : Cov a b
  oka : OK a
  okb : OK b
  low : Low a
theorem seen_after {l : List Sp} {a b : St} {j : Int} (hf : Fits (rd_T23 l j)) (h : After a b) (hb : High b) (hd : beginP l b j ≤ (rd_T23 l j).f4) : After (seenP l a j) (seenP l b j) := by
  obtain ⟨hc, oa, ob, hl⟩ := h
  have hm := begin_mono (l := l) hc hl hb j
  have ha0 := begin_lo l a j
  have hb0 := begin_lo l b j
  have c0 := hc.1
  have c3 := hc.2.2.2.1
  unfold Fits at hf
  unfold seenP
  generalize beginP l a j = x at *
  generalize beginP l b j = y at *
  generalize rd_T23 l j = s at *
  have w1 : wrap64 (x + s.f5) = x + s.f5 := w64 (by omega) (by omega)
  have w2 : wrap64 (y + s.f5) = y + s.f5 := w64 (by omega) (by omega)
  have w3 : wrap64 (a.f3 + s.f2) = a.f3 + s.f2 := w64 (by have := hl.2.2; omega) (by have := hb.2.2; omega)
  have w4 : wrap64 (b.f3 + s.f2) = b.f3 + s.f2 := w64 (by have := hl.2.2; omega) (by have := hb.2.2; omega)
  rw [w1, w2, w3, w4]
  refine ⟨⟨rfl, hc.2.1, ?_, ?_, ?_, ?_, hc.2.2.2.2.2.2.1, ?_⟩, ⟨with_U oa.1 j, with_U oa.2.1 j, oa.2.2⟩, ⟨with_U ob.1 j, with_U ob.2.1 j, ob.2.2⟩, hl.1, ?_, ?_⟩
  · show x + s.f5 ≤ y + s.f5; omega
  · exact mx_mono (by omega)
  · show (if a.f0 = 0 then j else a.f4) ≤ (if b.f0 = 0 then j else b.f4)
    rw [c0]
    split
    · omega
    · exact hc.2.2.2.2.1
  · exact with_mono oa.1 ob.1 hc.2.2.2.2.2.1 j
  · exact with_mono ob.2.1 oa.2.1 hc.2.2.2.2.2.2.2 j
  · show 0 ≤ x + s.f5; omega
  · exact mx_l _ _
theorem visit_mono {l : List Sp} {a b : St} {j : Int} (hf : Fits (rd_T23 l j)) (h : After a b) (hb : High b) (hv : (visitP l b j).2 = true) :
    visitP l a j = (seenP l a j, true) ∧ visitP l b j = (seenP l b j, true) ∧ After (seenP l a j) (seenP l b j) := by
  unfold visitP at hv ⊢
  by_cases hh : hasB b.f5 j = true ∨ beginP l b j > (rd_T23 l j).f4
  · rw [if_pos hh] at hv; exact absurd hv (by simp)
  · have hm := begin_mono (l := l) h.cov h.low hb j
    have ha : ¬ (hasB a.f5 j = true ∨ beginP l a j > (rd_T23 l j).f4) := fun h' => hh (h'.elim (fun h' => .inl (has_mono h.oka.1 h.okb.1 h.cov.2.2.2.2.2.1 j h')) (fun h' => .inr (by omega)))
    rw [if_neg hh, if_neg ha]
    exact ⟨rfl, rfl, seen_after hf h hb (by omega)⟩
theorem step_mono {p c r : Int} {l : List Sp} {a b : St} {j : Int} (hp : c ≤ 8) (hm : mayB p c r l = true) (hj0 : 0 ≤ j) (hj : j < (l.length : Int)) (h : After a b) (hb : High b) (hv : (stepP p c r l b j).2 = true) :
    (stepP p c r l a j).2 = true ∧ After (stepP p c r l a j).1 (stepP p c r l b j).1 := by
  have hf := fits hm hj0 hj
  unfold stepP at hv ⊢
  have hc := h.cov
  by_cases j0 : j = 0
  · rw [if_pos j0] at hv
    rw [if_pos j0, if_pos j0]
    unfold homeP at hv ⊢
    by_cases a1 : b.f0 = 0
    · rw [if_pos a1] at hv; exact absurd hv (by simp)
    rw [if_neg a1] at hv
    by_cases a2 : b.f7 = 0
    · rw [if_pos a2] at hv
      by_cases a3 : b.f1 ≥ c
      · rw [if_pos a3] at hv; exact absurd hv (by simp)
      rw [if_neg a3] at hv
      by_cases a4 : SubI (uptoV (wrap64 (2 * p))) b.f5
      · rw [if_pos a4] at hv; exact absurd hv (by simp)
      rw [if_neg a4] at hv
      by_cases a5 : lateP l b
      · rw [if_pos a5] at hv; exact absurd hv (by simp)
      have b1 : ¬ a.f0 = 0 := by rw [hc.1]; exact a1
      have b2 : a.f7 = 0 := sub_zero h.oka.2.2 (by rw [← a2]; exact hc.2.2.2.2.2.2.1)
      have b3 : ¬ a.f1 ≥ c := by have := hc.2.1; omega
      have b4 : ¬ SubI (uptoV (wrap64 (2 * p))) a.f5 := fun h' => a4 (sub_trans h' hc.2.2.2.2.2.1)
      have hf0 := farL_bd l b.f0 0
      have b5 : ¬ lateP l a := by
        unfold lateP at a5 ⊢
        rw [hc.1]
        generalize farL l b.f0 0 = f at *
        have h2 := hc.2.2.1
        rw [w64 (by have := h.low.2.1; omega) (by have := hb.2.1; omega)] at a5 ⊢
        omega
      rw [if_neg b1, if_pos b2, if_neg b3, if_neg b4, if_neg b5, if_neg a1, if_pos a2, if_neg a3, if_neg a4, if_neg a5]
      have z : (0 : Int) ≤ (rd_T23 l 0).f3 := by
        have := fits hm (show (0 : Int) ≤ 0 by omega) (show (0 : Int) < (l.length : Int) by omega)
        exact this.1
      have w1 : wrap64 (a.f1 + 1) = a.f1 + 1 := w64 (by have := h.low.1; omega) (by omega)
      have w2 : wrap64 (b.f1 + 1) = b.f1 + 1 := w64 (by have := h.low.1; have := hc.2.1; omega) (by omega)
      rw [w1, w2]
      refine ⟨rfl, ⟨rfl, ?_, ?_, ?_, hc.2.2.2.2.1, hc.2.2.2.2.2.1, hc.2.2.2.2.2.2.1, hc.2.2.2.2.2.2.2⟩, h.oka, h.okb, ?_, z, ?_⟩
      · show a.f1 + 1 ≤ b.f1 + 1; have := hc.2.1; omega
      · exact Int.le_refl _
      · exact Int.le_refl _
      · show 1 ≤ a.f1 + 1; have := h.low.1; omega
      · exact Int.le_refl _
    · rw [if_neg a2] at hv; exact absurd hv (by simp)
  · rw [if_neg j0] at hv
    rw [if_neg j0, if_neg j0]
    by_cases jp : j ≤ p
    · rw [if_pos jp] at hv
      rw [if_pos jp, if_pos jp]
      unfold takeP at hv ⊢
      by_cases hh : wrap64 (b.f3 + (rd_T23 l j).f2) > r ∨ (b.f0 = 0 ∧ j ≤ b.f4)
      · rw [if_pos hh] at hv; exact absurd hv (by simp)
      rw [if_neg hh] at hv
      have ha : ¬ (wrap64 (a.f3 + (rd_T23 l j).f2) > r ∨ (a.f0 = 0 ∧ j ≤ a.f4)) := by
        unfold Fits at hf
        have c3 := hc.2.2.2.1
        have c4 := hc.2.2.2.2.1
        rw [hc.1]
        rw [w64 (by have := h.low.2.2; omega) (by have := hb.2.2; omega)] at hh ⊢
        omega
      rw [if_neg ha, if_neg hh]
      have hv2 : (visitP l b j).2 = true := by
        by_cases q : (visitP l b j).2 = true
        · exact q
        · rw [if_neg q] at hv; exact absurd hv (by simp)
      obtain ⟨e1, e2, hA⟩ := visit_mono hf h hb hv2
      rw [e1, e2]
      refine ⟨rfl, ⟨hA.cov.1, hA.cov.2.1, hA.cov.2.2.1, hA.cov.2.2.2.1, hA.cov.2.2.2.2.1, hA.cov.2.2.2.2.2.1, ?_, hA.cov.2.2.2.2.2.2.2⟩, ⟨hA.oka.1, hA.oka.2.1, with_U hA.oka.2.2 j⟩, ⟨hA.okb.1, hA.okb.2.1, with_U hA.okb.2.2 j⟩, hA.low⟩
      exact with_mono hA.oka.2.2 hA.okb.2.2 hA.cov.2.2.2.2.2.2.1 j
    · rw [if_neg jp] at hv
      rw [if_neg jp, if_neg jp]
      unfold bringP at hv ⊢
      by_cases hh : b.f0 = 0 ∨ hasB b.f6 (wrap64 (j - p)) = false
      · rw [if_pos hh] at hv; exact absurd hv (by simp)
      rw [if_neg hh] at hv
      have ha : ¬ (a.f0 = 0 ∨ hasB a.f6 (wrap64 (j - p)) = false) := by
        rw [hc.1]
        refine fun h' => h'.elim (fun h' => hh (.inl h')) (fun h' => ?_)
        have hbt : hasB b.f6 (wrap64 (j - p)) = true := by
          cases q : hasB b.f6 (wrap64 (j - p)) with
          | true => rfl
          | false => exact absurd (Or.inr q) hh
        rw [has_mono h.okb.2.1 h.oka.2.1 hc.2.2.2.2.2.2.2 _ hbt] at h'
        cases h'
      rw [if_neg ha, if_neg hh]
      have hv2 : (visitP l b j).2 = true := by
        by_cases q : (visitP l b j).2 = true
        · exact q
        · rw [if_neg q] at hv; exact absurd hv (by simp)
      obtain ⟨e1, e2, hA⟩ := visit_mono hf h hb hv2
      rw [e1, e2]
      refine ⟨rfl, ⟨hA.cov.1, hA.cov.2.1, hA.cov.2.2.1, hA.cov.2.2.2.1, hA.cov.2.2.2.2.1, hA.cov.2.2.2.2.2.1, ?_, hA.cov.2.2.2.2.2.2.2⟩, ⟨hA.oka.1, hA.oka.2.1, without_U hA.oka.2.2 _⟩, ⟨hA.okb.1, hA.okb.2.1, without_U hA.okb.2.2 _⟩, hA.low⟩
      exact without_mono hA.oka.2.2 hA.okb.2.2 hA.cov.2.2.2.2.2.2.1 _
theorem here_down {p c : Int} {a b : St} (h : After a b) (hb : hereP p c b) : hereP p c a := by
  have h1 := h.cov.1
  have h2 := h.cov.2.1
  have h3 := h.cov.2.2.1
  have h4 := h.cov.2.2.2.1
  have h5 := h.low
  unfold hereP Low at *
  rw [h1]
  refine ⟨hb.1, hb.2.1, h5.1, by omega, h5.2.1, by omega, h5.2.2, by omega⟩
/-- A move from the one is one from the other. -/
theorem Move_mono {p c r : Int} {l : List Sp} {a b : St} {j : Int} (h : After a b) (hv : (MoveP p c r l b j).2.2 = true) :
    (MoveP p c r l a j).2.2 = true ∧ (MoveP p c r l a j).2.1 = (MoveP p c r l b j).2.1 ∧ After (MoveP p c r l a j).1 (MoveP p c r l b j).1 := by
  unfold MoveP at hv ⊢
  by_cases g : mayB p c r l = true ∧ hereP p c b
  · rw [if_pos g] at hv
    have g' : mayB p c r l = true ∧ hereP p c a := ⟨g.1, here_down h g.2⟩
    rw [if_pos g, if_pos g']
    unfold moveP at hv ⊢
    by_cases hh : j < 0 ∨ j > wrap64 (2 * p)
    · rw [if_pos hh] at hv; exact absurd hv (by simp)
    rw [if_neg hh] at hv
    rw [if_neg hh, if_neg hh]
    have hd := may_head g.1
    have e2 : wrap64 (2 * p) = 2 * p := w64 (by omega) (by omega)
    rw [e2] at hh
    have hs : (stepP p c r l b j).2 = true := by
      by_cases q : (stepP p c r l b j).2 = true
      · exact q
      · rw [if_neg q] at hv; exact absurd hv (by simp)
    have hH : High b := by have := g.2; unfold hereP at this; unfold High; omega
    have hm := step_mono hd.2.2.2.1 g.1 (by omega) (by omega) h hH hs
    rw [if_pos hs, if_pos hm.1, h.cov.1]
    exact ⟨rfl, rfl, hm.2⟩
  · rw [if_neg g] at hv; exact absurd hv (by simp)
end Go.Proofs.Ytjiammiihamkiaa.State
