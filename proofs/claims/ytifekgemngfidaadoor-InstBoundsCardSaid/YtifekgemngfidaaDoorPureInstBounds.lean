/- An instance that may be may not be with a stop less, a pair more, no cars, another demand, or a window that ends ahead of its beginning, for at most 33 stops. -/
import Derived.Test.YtifekgemngfidaaDoorDefInstBounds
import Derived.Test.YtifekgemngfidaaDoorInstLaw
import Derived.Test.YtifekgemngfidaaDoorPAx16
namespace Go.Proofs.YtifekgemngfidaaDoor.Pure
open Go.RowKit Go.Proofs.YtifekgemngfidaaDoor.PA Go.Proofs.YtifekgemngfidaaDoorW.PrintWords Go.Proofs.YtifekgemngfidaaDoorW.PrintLast
open Go.Proofs.YtifekgemngfidaaDoor.Inst
set_option linter.unusedVariables false
theorem not_so {b : Bool} (h : b = true → False) : b = false := by cases b with | false => rfl | true => exact (h rfl).elim
theorem less_stop {p c r : Int} {l : List St} (h : mayB p c r l = true) : mayB p c r (l.take (l.length - 1)) = false := not_so fun h2 => by
  have h1 := may_head h
  have h3 := may_head h2
  rw [List.length_take] at h3
  omega
theorem more_pair {p c r : Int} {l : List St} (h : mayB p c r l = true) : mayB (wrap64 (p + 1)) c r l = false := not_so fun h2 => by
  have h1 := may_head h
  have h3 := may_head h2
  rw [w64 (by omega) (by omega)] at h3
  omega
theorem no_cars {p r : Int} {l : List St} : mayB p 0 r l = false := not_so fun h2 => by
  have h3 := may_head h2
  omega
/-- What a stop's demand must be behind the pairs. -/
theorem dem_pair {p c r : Int} {l : List St} (h : mayB p c r l = true) (m : Nat) (h1 : 1 ≤ m) (hm : (m : Int) ≤ p) (h2 : m + p.toNat < l.length) (hml : m < l.length) : l[m + p.toNat].f2 = -l[m].f2 := by
  have hh := may_head h
  have hd := may_dem h m hml
  have h3 := (may_get h (m + p.toNat) h2).2
  unfold demB at h3
  rw [if_neg (by omega), if_neg (by omega)] at h3
  have h4 := of_decide_eq_true h3
  rw [show ((m + p.toNat : Nat) : Int) - p = (m : Int) by omega, w64 (x := (m : Int)) (by omega) (by omega), rdS_at hml] at h4
  rw [h4, w64 (by omega) (by omega)]
theorem other_dem {p c r : Int} {l : List St} (h : mayB p c r l = true) {i : Nat} (hi : i < l.length) (h1 : 1 ≤ i) (s : St) (hs : s.f2 = wrap64 (l[i].f2 + 1)) : mayB p c r (l.set i s) = false := not_so fun h2 => by
  have hh := may_head h
  have hd := may_dem h i hi
  rw [w64 (by omega) (by omega)] at hs
  have hlen : (l.set i s).length = l.length := List.length_set
  by_cases hp : (i : Int) ≤ p
  · have hj : i + p.toNat < l.length := by omega
    have e1 := dem_pair h i h1 hp hj hi
    have e2 := dem_pair h2 i h1 hp (by omega) (by omega)
    rw [List.getElem_set_self, List.getElem_set_ne (by omega), hs] at e2
    omega
  · obtain ⟨m, hm⟩ : ∃ m : Nat, i = m + p.toNat := ⟨i - p.toNat, by omega⟩
    have hmp : (m : Int) ≤ p := by omega
    have hm1 : 1 ≤ m := by omega
    have hml : m < l.length := by omega
    subst hm
    have e1 := dem_pair h m hm1 hmp hi hml
    have e2 := dem_pair h2 m hm1 hmp (by omega) (by omega)
    rw [List.getElem_set_self, List.getElem_set_ne (by omega), hs] at e2
    omega
theorem other_due {p c r : Int} {l : List St} (h : mayB p c r l = true) {i : Nat} (hi : i < l.length) (s : St) (h3 : s.f3 = l[i].f3) (h4 : s.f4 = wrap64 (l[i].f3 - 1)) : mayB p c r (l.set i s) = false := not_so fun h2 => by
  have e1 := of_decide_eq_true (may_get h i hi).1
  have e2 := (may_get h2 i (by rw [List.length_set]; exact hi)).1
  rw [List.getElem_set_self] at e2
  have e3 := of_decide_eq_true e2
  rw [w64 (by omega) (by omega)] at h4
  omega
theorem InstBounds : haulierlaw05_InstBounds.Claim := by
  intro x i hx hi0
  obtain ⟨p, c, r, l⟩ := x
  show ∃ k, haulierlaw05_InstBounds.f k p c r l i = some true
  suffices h : Ev (fun k => haulierlaw05_InstBounds.f k p c r l i) true from h.rounds
  have out : ∀ (b : Bool), b = true → Ev (fun k => haulierlaw05_InstBounds.j0 k i true b p c r l) true := by
    rintro _ rfl
    refine Ev.step (f := fun _ => some true) (fun k => ?_) (Ev.now _)
    simp only [haulierlaw05_InstBounds.j0]; rw [if_pos trivial]
  unfold haulierlaw05_InstBounds.f
  refine Ev.bind awake_ev ?_
  simp only [if_true]
  by_cases hl : (l.length : Int) > 33
  · simp only [if_pos hl]; exact out true rfl
  simp only [if_neg hl]
  refine Ev.bind (may_ev p c r l) ?_
  cases hm : mayB p c r l with
  | false => simp only [Bool.false_eq_true, if_false]; exact out true rfl
  | true =>
    simp only [if_true]
    by_cases h0 : (l.length : Int) = 0
    · simp only [if_pos h0]; exact out true rfl
    simp only [if_neg h0]
    by_cases h1 : i < 1
    · simp only [if_pos h1]; exact out true rfl
    simp only [if_neg h1]
    by_cases h2 : i ≥ (l.length : Int)
    · exact out _ (decide_eq_true h2)
    rw [decide_eq_false h2]
    obtain ⟨n, rfl⟩ : ∃ n : Nat, i = n := ⟨i.toNat, by omega⟩
    have hn : n < l.length := by omega
    have ew : wrap64 ((l.length : Int) - 1) = ((l.length - 1 : Nat) : Int) := by rw [w64 (by omega) (by omega)]; omega
    have g1 : (0 : Int) ≤ ((l.length - 1 : Nat) : Int) := by omega
    have g2 : ((l.length - 1 : Nat) : Int) ≤ (l.length : Int) := by omega
    have g3 : ([] : List St).length + l.length < 2932031007402 := by simp only [List.length_nil]; omega
    have g4 : (0 : Int) ≤ (n : Int) := by omega
    have g5 : (n : Int) < (l.length : Int) := by omega
    have m1 := may_ev p c r (l.take (l.length - 1))
    rw [less_stop hm] at m1
    have m2 := may_ev (wrap64 (p + 1)) c r l
    rw [more_pair hm] at m2
    have m3 := may_ev p 0 r l
    rw [no_cars] at m3
    have m4 := may_ev p c r (l.set n ⟨l[n].f0, l[n].f1, wrap64 (l[n].f2 + 1), l[n].f3, l[n].f4, l[n].f5⟩)
    have q4 := other_dem hm hn (by omega) (⟨l[n].f0, l[n].f1, wrap64 (l[n].f2 + 1), l[n].f3, l[n].f4, l[n].f5⟩ : St) rfl
    rw [q4] at m4
    have m5 := may_ev p c r (l.set n ⟨l[n].f0, l[n].f1, l[n].f2, l[n].f3, wrap64 (l[n].f3 - 1), l[n].f5⟩)
    have q5 := other_due hm hn (⟨l[n].f0, l[n].f1, l[n].f2, l[n].f3, wrap64 (l[n].f3 - 1), l[n].f5⟩ : St) rfl rfl
    rw [q5] at m5
    refine Ev.step (f := fun k => (inst_May.f k p c r (l.take (l.length - 1))).bind fun t1 => if t1 = true then none else (inst_May.f k (wrap64 (p + 1)) c r l).bind fun t2 => if t2 = true then none else (inst_May.f k p 0 r l).bind fun t3 => if t3 = true then none else (inst_May.f k p c r (l.set n ⟨l[n].f0, l[n].f1, wrap64 (l[n].f2 + 1), l[n].f3, l[n].f4, l[n].f5⟩)).bind fun t4 => if t4 = true then none else (inst_May.f k p c r (l.set n ⟨l[n].f0, l[n].f1, l[n].f2, l[n].f3, wrap64 (l[n].f3 - 1), l[n].f5⟩)).bind fun t5 => some (!t5)) (fun k => ?_) ?_
    · simp only [haulierlaw05_InstBounds.j0]
      rw [if_neg (by decide), ew, if_pos g1, if_pos g2, if_pos g3]
      simp only [Option.bind_some, List.nil_append, Int.toNat_natCast]
      rw [if_pos g4, if_pos g5, if_pos g5]
      simp only [rdS_at hn]
    · refine Ev.bind m1 ?_
      simp only [Bool.false_eq_true, if_false]
      refine Ev.bind m2 ?_
      simp only [Bool.false_eq_true, if_false]
      refine Ev.bind m3 ?_
      simp only [Bool.false_eq_true, if_false]
      refine Ev.bind m4 ?_
      simp only [Bool.false_eq_true, if_false]
      exact Ev.bind m5 (Ev.now _)
end Go.Proofs.YtifekgemngfidaaDoor.Pure
