/- NumSums: any costs together, and any root, are what the document says. No condition. -/
import Derived.Test.YtnfcccfcfckegaaPAx2
import Derived.Test.YtnfcccfcfckegaaNumArith
namespace Go.Proofs.Ytnfcccfcfckegaa.Pure
open Go.RowKit Go.Proofs.Ytnfcccfcfckegaa.PA Go.Proofs.YtnfcccfcfckegaaW.PrintWords Go.Proofs.YtnfcccfcfckegaaW.PrintLast Go.Proofs.Ytnfcccfcfckegaa.Num

theorem refsum_loop (l : List Int) (hl : l.length ≤ maxLen) (d : Nat) : ∀ (i : Nat) (n : Int), i + d = l.length → 0 ≤ n → n ≤ 1152921504606846976 →
    Ev (fun k => haulierref01_Sum.l0 k l n (i : Int)) (sumS n (l.drop i)) := by
  unfold maxLen at hl
  induction d with
  | zero =>
    intro i n hi h0 h1
    refine Ev.step (f := fun _ => some n) (fun k => ?_) ?_
    · simp only [haulierref01_Sum.l0]; rw [if_neg (by omega)]
    · rw [List.drop_of_length_le (by omega)]; exact Ev.now _
  | succ d ih =>
    intro i n hi h0 h1
    have hlt : i < l.length := by omega
    have hc := clamp_bd l[i]
    have hb := addS_bd l[i] h0
    have e := ih (i + 1) (addS n l[i]) (by omega) hb.1 hb.2
    have e2 : wrap64 ((i : Int) + 1) = ((i + 1 : Nat) : Int) := by rw [w64 (by omega) (by omega)]; omega
    rw [List.drop_eq_getElem_cons hlt]
    refine Ev.step (f := fun k => haulierref01_Sum.j1 k l n (i : Int) (mx l[i] 0)) (fun k => ?_) ?_
    · simp only [haulierref01_Sum.l0]
      rw [if_pos (by omega), if_pos (by omega), rd_nat l i hlt]
      unfold mx
      split <;> rfl
    · refine Ev.step (fun k => ?_) e
      simp only [haulierref01_Sum.j1]
      rw [e2]
      unfold addS
      by_cases h : mx l[i] 0 > 1152921504606846976
      · have ec : clamp l[i] = 1152921504606846976 := by unfold clamp mn; rw [if_pos h]
        rw [ec, if_pos h, w64 (x := n + 1152921504606846976) (by omega) (by omega)]
        unfold mn
        split <;> rfl
      · have ec : clamp l[i] = mx l[i] 0 := by unfold clamp mn; rw [if_neg h]
        rw [ec] at hc ⊢
        rw [if_neg h, w64 (x := n + mx l[i] 0) (by omega) (by omega)]
        unfold mn
        split <;> rfl
theorem refsum_ev (l : List Int) (hl : l.length ≤ maxLen) : Ev (fun k => haulierref01_Sum.f k l) (sumS 0 l) := by
  have := refsum_loop l hl l.length 0 0 (by omega) (by omega) (by omega)
  simpa [haulierref01_Sum.f] using this

theorem refroot_loop (m : Int) (h0 : 0 < m) (h1 : m ≤ 1152921504606846976) (d : Nat) : ∀ (a b : Int), 0 ≤ a → a < b → b ≤ 1073741824 → b - a ≤ (d : Int) + 1 → (a = 0 ∨ a * a < m) → m ≤ b * b →
    Ev (fun k => haulierref01_Root.l0 k m a b) (rootTop m) := by
  induction d with
  | zero =>
    intro a b ha hab hb hd hl hu
    have e : rootTop m = b := root_unique h0 h1 (by omega) (by
      have : b - 1 = a := by omega
      rw [this]
      rcases hl with hl | hl
      · subst hl; omega
      · exact hl) hu
    refine Ev.step (f := fun _ => some b) (fun k => ?_) (e ▸ Ev.now _)
    simp only [haulierref01_Root.l0]
    rw [w64 (by omega) (by omega), if_neg (by omega)]
  | succ d ih =>
    intro a b ha hab hb hd hl hu
    by_cases hdone : b - a ≤ 1
    · have e : rootTop m = b := root_unique h0 h1 (by omega) (by
        have : b - 1 = a := by omega
        rw [this]
        rcases hl with hl | hl
        · subst hl; omega
        · exact hl) hu
      refine Ev.step (f := fun _ => some b) (fun k => ?_) (e ▸ Ev.now _)
      simp only [haulierref01_Root.l0]
      rw [w64 (by omega) (by omega), if_neg (by omega)]
    · have em : wrap64 (Int.tdiv (wrap64 (a + b)) 2) = (a + b) / 2 := by
        rw [w64 (x := a + b) (by omega) (by omega), Int.tdiv_eq_ediv_of_nonneg (by omega), w64 (by omega) (by omega)]
      obtain ⟨c, hc⟩ : ∃ c, (a + b) / 2 = c := ⟨_, rfl⟩
      have hc1 : a < c := by omega
      have hc2 : c < b := by omega
      have hsq := sq_lt (a := c) (b := 1073741824) (by omega) (by omega)
      have hsq0 := sq_lt (a := 0) (b := c) (by omega) (by omega)
      by_cases hge : c * c ≥ m
      · refine Ev.step (fun k => ?_) (ih a c ha hc1 (by omega) (by omega) hl hge)
        simp only [haulierref01_Root.l0]
        rw [w64 (x := b - a) (by omega) (by omega), if_pos (by omega), em, hc, w64 (x := c * c) (by omega) (by omega), if_pos hge]
      · refine Ev.step (fun k => ?_) (ih c b (by omega) hc2 hb (by omega) (.inr (by omega)) hu)
        simp only [haulierref01_Root.l0]
        rw [w64 (x := b - a) (by omega) (by omega), if_pos (by omega), em, hc, w64 (x := c * c) (by omega) (by omega), if_neg hge]
theorem refroot_ev (n : Int) : Ev (fun k => haulierref01_Root.f k n) (rootTop (capS n)) := by
  unfold haulierref01_Root.f
  by_cases h : n < 1
  · rw [rootTop_zero (capS_low h)]
    simp only [if_pos h]; exact Ev.now _
  · simp only [if_neg h]
    have key : ∀ m : Int, 0 < m → m ≤ 1152921504606846976 → Ev (fun k => haulierref01_Root.j0 k m) (rootTop m) := by
      intro m h0 h1
      refine Ev.step (fun k => ?_) (refroot_loop m h0 h1 1073741824 0 1073741824 (by omega) (by omega) (by omega) (by omega) (.inl rfl) (by omega))
      simp only [haulierref01_Root.j0]
    by_cases h2 : n > 1152921504606846976
    · have e := capS_big h2
      simp only [if_pos h2]; rw [e]; exact key _ (by omega) (by omega)
    · rw [capS_in (by omega) (by omega)]
      simp only [if_neg h2]; exact key _ (by omega) (by omega)

theorem NumSums : haulierlaw01_NumSums.Pure := by
  intro l n hl _ _ _
  refine Ev.rounds (g := fun k => haulierlaw01_NumSums.f k l n) ?_
  unfold haulierlaw01_NumSums.f
  refine Ev.bind awake_ev ?_
  simp only [if_true]
  by_cases h : (l.length : Int) > 1000
  · refine Ev.step (f := fun _ => some true) (fun k => ?_) (Ev.now _)
    simp [haulierlaw01_NumSums.j0, h]
  · refine Ev.step (f := fun k => (num_Sum.f k l).bind fun t121 => ((haulierref01_Sum.f k l).bind fun t122 => (if t121 = t122 then ((num_Root.f n).bind fun t123 => ((haulierref01_Root.f k n).bind fun t124 => (some (t123 == t124)))) else (some false)))) (fun k => ?_) ?_
    · simp [haulierlaw01_NumSums.j0, h]
    · refine Ev.bind (sum_ev l hl) (Ev.bind (refsum_ev l hl) ?_)
      simp only [if_true, root_f, Option.bind_some]
      refine Ev.bind (refroot_ev n) ?_
      simp only [beq_self_eq_true]
      exact Ev.now _

end Go.Proofs.Ytnfcccfcfckegaa.Pure
