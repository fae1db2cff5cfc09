import Derived.Test.YtndfpbjpdoigfaaPAx2
import Derived.Test.YtndfpbjpdoigfaaPAx1
/-! Whether an instance may be, as one Bool; the program answers it. -/
namespace Go.Proofs.Ytndfpbjpdoigfaa.Inst
open Go.RowKit Go.Proofs.YtndfpbjpdoigfaaW.PrintWords Go.Proofs.YtndfpbjpdoigfaaW.PrintLast Go.Proofs.Ytndfpbjpdoigfaa.PA
set_option linter.unusedVariables false
abbrev St := S28
theorem w64 {x : Int} (h : -9223372036854775808 ≤ x) (h' : x ≤ 9223372036854775807) : wrap64 x = x := by unfold wrap64; omega
theorem w_next {i n : Nat} (h : i < n) (hn : n ≤ 100000) : wrap64 ((i : Int) + 1) = ((i + 1 : Nat) : Int) := by rw [w64 (by omega) (by omega)]; omega
theorem wf64 {x : Int} (h : (Lit.int .i64 x).wf = true) : -9223372036854775808 ≤ x ∧ x ≤ 9223372036854775807 := by
  simp [Lit.wf, IntKind.min, IntKind.max, IntKind.bits, IntKind.signed] at h
  omega
theorem rd_at {b : List Int} {i : Nat} (h : i < b.length) : rd b (i : Int) = b[i] := by unfold rd; simp [List.getD, List.getElem?_eq_getElem h]
theorem rdS_at {b : List St} {i : Nat} (h : i < b.length) : rd_T28 b (i : Int) = b[i] := by unfold rd_T28; simp [List.getD, List.getElem?_eq_getElem h]
/-- Are all of some numbers from one to another one? -/
def betw (lo hi : Int) (l : List Int) : Bool := l.all fun x => decide (lo ≤ x ∧ x ≤ hi)
theorem between_ev (lo hi : Int) (l : List Int) (hl : l.length ≤ 1000) : Ev (fun k => inst_between.f k lo hi l) (betw lo hi l) := by
  have h : ∀ (d i : Nat), i + d = l.length → Ev (fun k => inst_between.l0 k lo hi l (l.length : Int) (i : Int)) (betw lo hi (l.drop i)) := by
    intro d
    induction d with
    | zero =>
      intro i hi'
      refine Ev.step (f := fun _ => some true) (fun k => ?_) ?_
      · simp only [inst_between.l0]; rw [if_neg (by omega)]
      · rw [List.drop_eq_nil_of_le (by omega)]; exact Ev.now _
    | succ d ih =>
      intro i hi'
      have hlt : i < l.length := by omega
      rw [List.drop_eq_getElem_cons hlt]
      have e : betw lo hi (l[i] :: l.drop (i + 1)) = (decide (lo ≤ l[i] ∧ l[i] ≤ hi) && betw lo hi (l.drop (i + 1))) := by unfold betw; rw [List.all_cons]
      rw [e]
      by_cases h1 : l[i] < lo
      · rw [decide_eq_false (by omega), Bool.false_and]
        refine Ev.step (f := fun _ => some false) (fun k => ?_) (Ev.now _)
        simp only [inst_between.l0]; rw [if_pos (by omega), if_pos (by omega), if_pos (by omega), rd_at hlt, if_pos h1]
      · by_cases h2 : l[i] > hi
        · rw [decide_eq_false (by omega), Bool.false_and]
          refine Ev.step (f := fun _ => some false) (fun k => ?_) (Ev.now _)
          simp only [inst_between.l0]; rw [if_pos (by omega), if_pos (by omega), if_pos (by omega), rd_at hlt, if_neg h1, if_pos h2]
        · rw [decide_eq_true (by omega), Bool.true_and]
          refine Ev.step (f := fun k => inst_between.l0 k lo hi l (l.length : Int) ((i + 1 : Nat) : Int)) (fun k => ?_) (ih (i + 1) (by omega))
          simp only [inst_between.l0]; rw [if_pos (by omega), if_pos (by omega), if_pos (by omega), rd_at hlt, if_neg h1, if_neg h2, w_next hlt (by omega)]
  have := h l.length 0 (by omega)
  simpa [inst_between.f] using this
theorem betw1 (lo hi a : Int) : betw lo hi [a] = decide (lo ≤ a ∧ a ≤ hi) := by simp [betw]
theorem betw2 (lo hi a b : Int) : betw lo hi [a, b] = (decide (lo ≤ a ∧ a ≤ hi) && decide (lo ≤ b ∧ b ≤ hi)) := by simp [betw]
def stopB (s : St) : Bool := decide (0 ≤ s.f0 ∧ s.f0 ≤ 10000 ∧ 0 ≤ s.f1 ∧ s.f1 ≤ 10000 ∧ 0 ≤ s.f3 ∧ s.f3 ≤ 1048576 ∧ s.f3 ≤ s.f4 ∧ s.f4 ≤ 1048576 ∧ 0 ≤ s.f5 ∧ s.f5 ≤ 1000)
def demB (p : Int) (l : List St) (i : Nat) (s : St) : Bool := if i = 0 then decide (s.f2 = 0 ∧ s.f5 = 0) else if (i : Int) ≤ p then decide (1 ≤ s.f2 ∧ s.f2 ≤ 1000) else decide (s.f2 = wrap64 (-((rd_T28 l (wrap64 ((i : Int) - p))).f2)))
def allB (p : Int) (l : List St) : Nat → List St → Bool
  | _, [] => true
  | i, s :: t => stopB s && (demB p l i s && allB p l (i + 1) t)
def headB (p c r : Int) (n : Nat) : Bool := decide (0 ≤ p ∧ p ≤ 16 ∧ 1 ≤ c ∧ c ≤ 8 ∧ 1 ≤ r ∧ r ≤ 1000 ∧ (n : Int) = 2 * p + 1)
/-- May an instance be? -/
def mayB (p c r : Int) (l : List St) : Bool := headB p c r l.length && allB p l 0 l
theorem head_of {p c r : Int} {n : Nat} (h : headB p c r n = true) : 0 ≤ p ∧ p ≤ 16 ∧ 1 ≤ c ∧ c ≤ 8 ∧ 1 ≤ r ∧ r ≤ 1000 ∧ (n : Int) = 2 * p + 1 := by simpa [headB] using h
theorem may_head {p c r : Int} {l : List St} (h : mayB p c r l = true) : 0 ≤ p ∧ p ≤ 16 ∧ 1 ≤ c ∧ c ≤ 8 ∧ 1 ≤ r ∧ r ≤ 1000 ∧ (l.length : Int) = 2 * p + 1 := by
  unfold mayB at h; rw [Bool.and_eq_true] at h; exact head_of h.1
theorem allB_get (p : Int) (l : List St) : ∀ (t : List St) (i j : Nat) (h : j < t.length), allB p l i t = true → stopB t[j] = true ∧ demB p l (i + j) t[j] = true := by
  intro t
  induction t with
  | nil => intro i j h; simp at h
  | cons s t ih =>
    intro i j h ha
    simp only [allB, Bool.and_eq_true] at ha
    cases j with
    | zero => exact ⟨ha.1, ha.2.1⟩
    | succ j =>
      have := ih (i + 1) j (by simpa using h) ha.2.2
      rw [show i + 1 + j = i + (j + 1) by omega] at this
      simpa using this
theorem may_get {p c r : Int} {l : List St} (h : mayB p c r l = true) (j : Nat) (hj : j < l.length) : stopB l[j] = true ∧ demB p l j l[j] = true := by
  unfold mayB at h; rw [Bool.and_eq_true] at h
  have := allB_get p l l 0 j hj h.2
  simpa using this
theorem stop_ev {s : St} {G : Nat → Bool → Option Bool} (k0 : Bool → Bool) (h : ∀ b, stopB s = !b → Ev (fun k => G k b) (k0 b)) :
    Ev (fun k => (inst_between.f k 0 10000 [s.f0, s.f1]).bind fun t1 => (if t1 = true then ((inst_between.f k 0 1048576 [s.f3, s.f4]).bind fun t2 => (if t2 = true then (if s.f4 < s.f3 then G k true else (inst_between.f k 0 1000 [s.f5]).bind fun t3 => G k (!t3)) else G k true)) else G k true)) (k0 (!stopB s)) := by
  refine Ev.bind (between_ev 0 10000 _ (by simp)) ?_
  rw [betw2]
  by_cases h1 : (decide (0 ≤ s.f0 ∧ s.f0 ≤ 10000) && decide (0 ≤ s.f1 ∧ s.f1 ≤ 10000)) = true
  · rw [h1]
    simp only [if_true]
    rw [Bool.and_eq_true, decide_eq_true_iff, decide_eq_true_iff] at h1
    refine Ev.bind (between_ev 0 1048576 _ (by simp)) ?_
    rw [betw2]
    by_cases h2 : (decide (0 ≤ s.f3 ∧ s.f3 ≤ 1048576) && decide (0 ≤ s.f4 ∧ s.f4 ≤ 1048576)) = true
    · rw [h2]
      simp only [if_true]
      rw [Bool.and_eq_true, decide_eq_true_iff, decide_eq_true_iff] at h2
      by_cases h3 : s.f4 < s.f3
      · have e : stopB s = false := decide_eq_false (by omega)
        refine Ev.congr (f := fun k => G k true) (fun k => by rw [if_pos h3]) ?_
        have := h true (by rw [e]; rfl)
        rw [e]; exact this
      · refine Ev.congr (f := fun k => (inst_between.f k 0 1000 [s.f5]).bind fun t3 => G k (!t3)) (fun k => by rw [if_neg h3]) ?_
        refine Ev.bind (between_ev 0 1000 _ (by simp)) ?_
        rw [betw1]
        have e : stopB s = decide (0 ≤ s.f5 ∧ s.f5 ≤ 1000) := by unfold stopB; apply decide_eq_decide.mpr; omega
        rw [← e]
        exact h (!stopB s) (by simp)
    · have e : stopB s = false := decide_eq_false (by rw [Bool.and_eq_true, decide_eq_true_iff, decide_eq_true_iff] at h2; omega)
      rw [Bool.eq_false_iff.mpr h2]
      simp only [Bool.false_eq_true, if_false]
      have := h true (by rw [e]; rfl)
      rw [e]; exact this
  · have e : stopB s = false := decide_eq_false (by rw [Bool.and_eq_true, decide_eq_true_iff, decide_eq_true_iff] at h1; omega)
    rw [Bool.eq_false_iff.mpr h1]
    simp only [Bool.false_eq_true, if_false]
    have := h true (by rw [e]; rfl)
    rw [e]; exact this
theorem may_loop (p c r : Int) (l : List St) (hp : 0 ≤ p ∧ p ≤ 16) (hlen : (l.length : Int) = 2 * p + 1) : ∀ (d i : Nat), i + d = l.length → Ev (fun k => inst_May.l0 k l (l.length : Int) (i : Int) p c r l) (allB p l i (l.drop i)) := by
  intro d
  induction d with
  | zero =>
    intro i hi
    rw [List.drop_eq_nil_of_le (by omega)]
    refine Ev.step (f := fun _ => some true) (fun k => ?_) (Ev.now _)
    simp only [inst_May.l0]; rw [if_neg (by omega)]
  | succ d ih =>
    intro i hi
    have hlt : i < l.length := by omega
    have hr := rdS_at hlt
    have hih := ih (i + 1) (by omega)
    rw [List.drop_eq_getElem_cons hlt]
    generalize l[i] = s at *
    have hend := stop_ev (s := s) (G := fun k b => inst_May.j2 k (i : Int) l (l.length : Int) (i : Int) b p c r l s.f0 s.f1 s.f2 s.f3 s.f4 s.f5) (fun b => !b && (demB p l i s && allB p l (i + 1) (l.drop (i + 1)))) (fun b hb => ?_)
    · have e : allB p l i (s :: l.drop (i + 1)) = (! !stopB s && (demB p l i s && allB p l (i + 1) (l.drop (i + 1)))) := by simp [allB]
      rw [e]
      exact Ev.step (fun k => by simp only [inst_May.l0]; rw [if_pos (by omega), if_pos (by omega), if_pos (by omega), hr]) hend
    · cases b with
      | true =>
        refine Ev.step (f := fun _ => some false) (fun k => ?_) (Ev.now _)
        simp [inst_May.j2]
      | false =>
        simp only [Bool.not_false, Bool.true_and]
        have e1 : wrap64 ((i : Int) + 1) = ((i + 1 : Nat) : Int) := w_next hlt (by omega)
        by_cases h0 : i = 0
        · subst h0
          have e : demB p l 0 s = decide (s.f2 = 0 ∧ s.f5 = 0) := by simp [demB]
          rw [e]
          by_cases h2 : s.f2 = 0
          · by_cases h5 : s.f5 = 0
            · rw [decide_eq_true ⟨h2, h5⟩, Bool.true_and]
              refine Ev.step (fun k => ?_) hih
              simp only [inst_May.j2]; rw [if_neg (by decide), if_pos (by omega), if_pos h2, if_pos h5, e1]
            · rw [decide_eq_false (fun h => h5 h.2), Bool.false_and]
              refine Ev.step (f := fun _ => some false) (fun k => ?_) (Ev.now _)
              simp only [inst_May.j2]; rw [if_neg (by decide), if_pos (by omega), if_pos h2, if_neg h5]
          · rw [decide_eq_false (fun h => h2 h.1), Bool.false_and]
            refine Ev.step (f := fun _ => some false) (fun k => ?_) (Ev.now _)
            simp only [inst_May.j2]; rw [if_neg (by decide), if_pos (by omega), if_neg h2]
        · by_cases hip : (i : Int) ≤ p
          · have e : demB p l i s = decide (1 ≤ s.f2 ∧ s.f2 ≤ 1000) := by simp [demB, h0, hip]
            rw [e]
            refine Ev.step (f := fun k => (inst_between.f k 1 1000 [s.f2]).bind fun t => (if t = true then (inst_May.l0 k l (l.length : Int) ((i + 1 : Nat) : Int) p c r l) else (some false))) (fun k => ?_) (Ev.bind (between_ev 1 1000 _ (by simp)) ?_)
            · simp only [inst_May.j2]; rw [if_neg (by decide), if_neg (by omega), if_pos hip, e1]
            · rw [betw1]
              by_cases hd : 1 ≤ s.f2 ∧ s.f2 ≤ 1000
              · rw [decide_eq_true hd, Bool.true_and]; simp only [if_true]; exact hih
              · rw [decide_eq_false hd, Bool.false_and]; simp only [Bool.false_eq_true, if_false]; exact Ev.now _
          · have ew : wrap64 ((i : Int) - p) = (i : Int) - p := w64 (by omega) (by omega)
            have e : demB p l i s = decide (s.f2 = wrap64 (-((rd_T28 l (wrap64 ((i : Int) - p))).f2))) := by simp [demB, h0, hip]
            rw [e]
            by_cases hd : s.f2 = wrap64 (-((rd_T28 l (wrap64 ((i : Int) - p))).f2))
            · rw [decide_eq_true hd, Bool.true_and]
              refine Ev.step (fun k => ?_) hih
              simp only [inst_May.j2]; rw [if_neg (by decide), if_neg (by omega), if_neg hip, if_pos (by rw [ew]; omega), if_pos (by rw [ew]; omega), if_pos hd, e1]
            · rw [decide_eq_false hd, Bool.false_and]
              refine Ev.step (f := fun _ => some false) (fun k => ?_) (Ev.now _)
              simp only [inst_May.j2]; rw [if_neg (by decide), if_neg (by omega), if_neg hip, if_pos (by rw [ew]; omega), if_pos (by rw [ew]; omega), if_neg hd]
theorem may_ev (p c r : Int) (l : List St) : Ev (fun k => inst_May.f k p c r l) (mayB p c r l) := by
  have out : ∀ b, b = true → mayB p c r l = false → Ev (fun k => inst_May.j0 k b p c r l) (mayB p c r l) := fun b hb h => by
    rw [h, hb]
    refine Ev.step (f := fun _ => some false) (fun k => ?_) (Ev.now _)
    simp [inst_May.j0]
  have no : ¬ (0 ≤ p ∧ p ≤ 16 ∧ 1 ≤ c ∧ c ≤ 8 ∧ 1 ≤ r ∧ r ≤ 1000 ∧ (l.length : Int) = 2 * p + 1) → mayB p c r l = false := fun h => by
    unfold mayB headB; rw [decide_eq_false h, Bool.false_and]
  refine Ev.bind (between_ev 0 16 _ (by simp)) ?_
  rw [betw1]
  by_cases hp : 0 ≤ p ∧ p ≤ 16
  · rw [decide_eq_true hp]
    simp only [if_true]
    refine Ev.bind (between_ev 1 8 _ (by simp)) ?_
    rw [betw1]
    by_cases hc : 1 ≤ c ∧ c ≤ 8
    · rw [decide_eq_true hc]
      simp only [if_true]
      refine Ev.bind (between_ev 1 1000 _ (by simp)) ?_
      rw [betw1]
      by_cases hr : 1 ≤ r ∧ r ≤ 1000
      · rw [decide_eq_true hr]
        simp only [if_true]
        have ew : wrap64 (wrap64 (2 * p) + 1) = 2 * p + 1 := by rw [w64 (x := 2 * p) (by omega) (by omega), w64 (by omega) (by omega)]
        rw [ew]
        by_cases hn : (l.length : Int) = 2 * p + 1
        · rw [show ((l.length : Int) != 2 * p + 1) = false by simp [hn]]
          have e : mayB p c r l = allB p l 0 (l.drop 0) := by unfold mayB headB; rw [decide_eq_true (by omega), Bool.true_and]; rfl
          rw [e]
          refine Ev.step (f := fun k => inst_May.l0 k l (l.length : Int) ((0 : Nat) : Int) p c r l) (fun k => ?_) (may_loop p c r l hp hn l.length 0 (by omega))
          simp [inst_May.j0]
        · exact out _ (bne_iff_ne.mpr hn) (no (by omega))
      · rw [decide_eq_false hr]; simp only [Bool.false_eq_true, if_false]; exact out _ rfl (no (by omega))
    · rw [decide_eq_false hc]; simp only [Bool.false_eq_true, if_false]; exact out _ rfl (no (by omega))
  · rw [decide_eq_false hp]; simp only [Bool.false_eq_true, if_false]; exact out _ rfl (no (by omega))
end Go.Proofs.Ytndfpbjpdoigfaa.Inst
