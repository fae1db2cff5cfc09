/- A pair alone may be a route just if the car can hold it, and is in time at both stops, and back (P7.1), in an instance of at most 33 stops. No condition. -/
import Derived.Test.YtndfpbjpdoigfaaDefSchedOne
import Derived.Test.YtndfpbjpdoigfaaSchedBase
namespace Go.Proofs.Ytndfpbjpdoigfaa.Pure
open Go.RowKit Go.Proofs.Ytndfpbjpdoigfaa.PA Go.Proofs.YtndfpbjpdoigfaaW.PrintWords Go.Proofs.YtndfpbjpdoigfaaW.PrintLast Go.Proofs.Ytndfpbjpdoigfaa.Inst Go.Proofs.Ytndfpbjpdoigfaa.Sched
theorem times_ev {p c r : Int} {l : List St} {i : Nat} {e far : Int} {ts : List S36} (hm : mayB p c r l = true) (h1 : (i : Int) ≤ p) (h2 : p ≤ 16) (h0 : 1 ≤ i) (h : runF p r l i (i + p.toNat) = some (e, far, ts)) :
    Ev (fun k => sched_Times.f k p c r l [(i : Int), wrap64 ((i : Int) + p)]) (if e ≠ 0 then ([], 0, e) else (ts, far, 0)) := by
  obtain ⟨K, hK⟩ := may_ev p c r l
  refine ⟨K, fun k hk => ?_⟩
  have hmk : inst_May.f k p c r l = some true := (hK k hk).trans (by rw [hm])
  have e1 : rd [(i : Int), wrap64 ((i : Int) + p)] 0 = (i : Int) := rfl
  have e2 : rd [(i : Int), wrap64 ((i : Int) + p)] 1 = wrap64 ((i : Int) + p) := rfl
  have e3 : wrap64 ((i : Int) + p) = (i : Int) + p := w64 (by omega) (by omega)
  show sched_Times.f k p c r l [(i : Int), wrap64 ((i : Int) + p)] = _
  unfold sched_Times.f
  rw [dif_pos (show ([(i : Int), wrap64 ((i : Int) + p)] : List Int).length = 2 from rfl), e1, e2, e3, if_pos ⟨by omega, by omega, hmk⟩, Int.toNat_natCast, show ((i : Int) + p).toNat = i + p.toNat by omega, h]
  rfl
/-- The last step: may it be? -/
theorem j3_ev {p c r : Int} {l : List St} {i : Nat} {s a b : St} (h : Pair p r l i s a b) {e far : Int} {ts : List S36} (m : Bool) (hm : m = decide (e = 0)) (he : e = 0 ∨ e = 6 ∨ e = 7)
    (ht : e = 0 → far = farI s a + farI a b + farI b s ∧ ∃ t1 t2 : S36, ts = [t1, t2] ∧ t1.f1 = bg1 s a ∧ t2.f1 = bg2 s a b) :
    Ev (fun k => haulierlaw07_SchedOne.j3 k (if e ≠ 0 then [] else ts) (if e ≠ 0 then 0 else far) e (bg1 s a) (bg2 s a b) m p c r l a.f0 a.f1 a.f2 a.f3 a.f4 a.f5 b.f0 b.f1 b.f2 b.f3 b.f4 b.f5) true := by
  have hlen := h.len
  have hip := h.ip
  have i1 := h.i1
  have h0 : (0 : Int) < (l.length : Int) := by omega
  have r0 : rd_T28 l 0 = s := by
    obtain ⟨q, e⟩ := List.getElem?_eq_some_iff.1 h.hs
    have := rdS_at q
    rw [e] at this; exact this
  have F1 : plane_Far.f s.f0 s.f1 s.f2 s.f3 s.f4 s.f5 a.f0 a.f1 a.f2 a.f3 a.f4 a.f5 = some (farI s a) := far_eq s a
  have F2 : plane_Far.f a.f0 a.f1 a.f2 a.f3 a.f4 a.f5 b.f0 b.f1 b.f2 b.f3 b.f4 b.f5 = some (farI a b) := far_eq a b
  have F3 : plane_Far.f b.f0 b.f1 b.f2 b.f3 b.f4 b.f5 s.f0 s.f1 s.f2 s.f3 s.f4 s.f5 = some (farI b s) := far_eq b s
  have f1 := far_bd s a
  have f2 := far_bd a b
  have f3 := far_bd b s
  refine Ev.step (f := fun _ => some true) (fun k => ?_) (Ev.now _)
  rw [hm]
  by_cases h1 : e = 0
  · obtain ⟨rfl, t1, t2, rfl, g1, g2⟩ := ht h1
    subst h1
    simp only [haulierlaw07_SchedOne.j3]
    rw [if_pos (by decide), if_pos trivial, if_pos h0, r0, F1, F2, F3]
    simp only [Option.bind_some]
    simp only [if_neg (show ¬ ((0 : Int) ≠ 0) from fun h => h rfl)]
    rw [w64 (x := farI s a + farI a b) (by omega) (by omega), w64 (x := farI s a + farI a b + farI b s) (by omega) (by omega), if_pos rfl,
      if_pos (show (([t1, t2] : List S36).length : Int) = 2 from rfl), if_pos (show (0 : Int) < (([t1, t2] : List S36).length : Int) from show (0 : Int) < 2 by decide), if_pos (show (rd_T36 [t1, t2] 0).f1 = bg1 s a from g1), if_pos (show (1 : Int) < (([t1, t2] : List S36).length : Int) from show (1 : Int) < 2 by decide)]
    congr 1
    exact beq_iff_eq.2 g2
  · simp only [haulierlaw07_SchedOne.j3]
    rw [if_neg (by simpa using h1)]
    rcases he with h2 | h2 | h2
    · exact absurd h2 h1
    · rw [if_pos h2]
    · rw [if_neg (by omega), h2]; rfl
theorem SchedOne : haulierlaw07_SchedOne.Claim := by
  intro x x1 _ _
  obtain ⟨p, c, r, l⟩ := x
  dsimp only
  suffices h : Ev (fun k => haulierlaw07_SchedOne.f k p c r l x1) true from h.rounds
  have out : Ev (fun k => haulierlaw07_SchedOne.j0 k x1 true true p c r l) true := Ev.step (f := fun _ => some true) (fun k => by simp [haulierlaw07_SchedOne.j0]) (Ev.now _)
  refine Ev.bind awake_ev ?_
  simp only [if_true]
  refine Ev.bind (may_ev p c r l) ?_
  by_cases hm : mayB p c r l = true
  rotate_left
  · rw [Bool.eq_false_iff.mpr hm]; simp only [Bool.false_eq_true, if_false]; exact out
  rw [hm]
  simp only [if_true]
  have hh := may_head hm
  by_cases h1 : (l.length : Int) > 33
  · simp only [if_pos h1]; exact out
  simp only [if_neg h1]
  by_cases h2 : x1 < 1
  · simp only [if_pos h2]; exact out
  simp only [if_neg h2]
  by_cases h3 : x1 > p
  · simp only [if_pos h3]; exact out
  simp only [if_neg h3]
  obtain ⟨i, rfl⟩ : ∃ i : Nat, x1 = (i : Int) := ⟨x1.toNat, by omega⟩
  have e1 : ((l.length : Int) != wrap64 (wrap64 (2 * p) + 1)) = false := by
    rw [w64 (x := 2 * p) (by omega) (by omega), w64 (by omega) (by omega)]
    exact bne_eq_false_iff_eq.2 (by omega)
  rw [e1]
  have e2 : wrap64 ((i : Int) + p) = (i : Int) + p := w64 (by omega) (by omega)
  obtain ⟨s, a, b, hP⟩ := pair_of (c := c) hm (i := i) (by omega) (by omega)
  obtain ⟨far, ts, hrun, hok⟩ := run_eq hP
  have hT := times_ev hm (i := i) (by omega) (by omega) (by omega) hrun
  have r0 : rd_T28 l 0 = s := by
    obtain ⟨q, e⟩ := List.getElem?_eq_some_iff.1 hP.hs
    have := rdS_at q
    rw [e] at this; exact this
  have ra : rd_T28 l (i : Int) = a := by
    obtain ⟨q, e⟩ := List.getElem?_eq_some_iff.1 hP.ha
    rw [rdS_at q, e]
  have rb : rd_T28 l ((i : Int) + p) = b := by
    obtain ⟨q, e⟩ := List.getElem?_eq_some_iff.1 hP.hb
    rw [show (i : Int) + p = ((i + p.toNat : Nat) : Int) by omega, rdS_at q, e]
  have F1 : plane_Far.f s.f0 s.f1 s.f2 s.f3 s.f4 s.f5 a.f0 a.f1 a.f2 a.f3 a.f4 a.f5 = some (farI s a) := far_eq s a
  have F2 : plane_Far.f a.f0 a.f1 a.f2 a.f3 a.f4 a.f5 b.f0 b.f1 b.f2 b.f3 b.f4 b.f5 = some (farI a b) := far_eq a b
  have F3 : plane_Far.f b.f0 b.f1 b.f2 b.f3 b.f4 b.f5 s.f0 s.f1 s.f2 s.f3 s.f4 s.f5 = some (farI b s) := far_eq b s
  have f1 := far_bd s a
  have f2 := far_bd a b
  have f3 := far_bd b s
  have ns0 := hP.ns.r0; have ns1 := hP.ns.r1; have ns2 := hP.ns.r2
  have na0 := hP.na.r0; have na1 := hP.na.r1; have na2 := hP.na.r2; have na3 := hP.na.v0; have na4 := hP.na.v1
  have nb0 := hP.nb.r0; have nb1 := hP.nb.r1; have nb2 := hP.nb.r2; have nb3 := hP.nb.v0; have nb4 := hP.nb.v1
  have b1 : bg1 s a ≤ 3000000 := by unfold bg1; split <;> omega
  have b1' : 0 ≤ bg1 s a := by unfold bg1; split <;> omega
  have b2 : bg2 s a b ≤ 6000000 := by unfold bg2; split <;> omega
  have b2' : 0 ≤ bg2 s a b := by unfold bg2; split <;> omega
  have he : endF r s a b = 0 ∨ endF r s a b = 6 ∨ endF r s a b = 7 := by
    unfold endF
    split
    · exact Or.inr (Or.inl rfl)
    split
    · exact Or.inr (Or.inr rfl)
    split
    · exact Or.inr (Or.inr rfl)
    split
    · exact Or.inr (Or.inr rfl)
    · exact Or.inl rfl
  have hp0 : (0 : Int) < (l.length : Int) := by omega
  -- the three steps
  have S3 : ∀ m, m = decide (endF r s a b = 0) → Ev (fun k => haulierlaw07_SchedOne.j3 k (if endF r s a b ≠ 0 then [] else ts) (if endF r s a b ≠ 0 then 0 else far) (endF r s a b) (bg1 s a) (bg2 s a b) m p c r l a.f0 a.f1 a.f2 a.f3 a.f4 a.f5 b.f0 b.f1 b.f2 b.f3 b.f4 b.f5) true := fun m hm => j3_ev hP m hm he hok
  have S2 : Ev (fun k => haulierlaw07_SchedOne.j2 k (if endF r s a b ≠ 0 then [] else ts) (if endF r s a b ≠ 0 then 0 else far) (endF r s a b) (bg1 s a) (bg2 s a b) p c r l a.f0 a.f1 a.f2 a.f3 a.f4 a.f5 b.f0 b.f1 b.f2 b.f3 b.f4 b.f5) true := by
    by_cases c1 : a.f2 ≤ r
    · by_cases c2 : bg1 s a ≤ a.f4
      · by_cases c3 : bg2 s a b ≤ b.f4
        · refine Ev.step (fun k => ?_) (S3 (decide (bg2 s a b + b.f5 + farI b s ≤ s.f4)) ?_)
          · simp only [haulierlaw07_SchedOne.j2]
            rw [if_pos hp0, r0, F3, Option.bind_some, if_pos c1, if_pos c2, if_pos c3, w64 (x := bg2 s a b + b.f5) (by omega) (by omega), w64 (x := bg2 s a b + b.f5 + farI b s) (by omega) (by omega)]
          · apply decide_eq_decide.2
            unfold endF
            rw [if_neg (by omega), if_neg (by omega), if_neg (by omega)]
            split
            · exact ⟨fun h => by omega, fun h => by cases h⟩
            · exact ⟨fun _ => rfl, fun _ => by omega⟩
        · refine Ev.step (fun k => ?_) (S3 false ?_)
          · simp only [haulierlaw07_SchedOne.j2]
            rw [if_pos hp0, r0, F3, Option.bind_some, if_pos c1, if_pos c2, if_neg c3]
          · unfold endF
            rw [if_neg (by omega), if_neg (by omega), if_pos (by omega)]; rfl
      · refine Ev.step (fun k => ?_) (S3 false ?_)
        · simp only [haulierlaw07_SchedOne.j2]
          rw [if_pos hp0, r0, F3, Option.bind_some, if_pos c1, if_neg c2]
        · unfold endF
          rw [if_neg (by omega), if_pos (by omega)]; rfl
    · refine Ev.step (fun k => ?_) (S3 false ?_)
      · simp only [haulierlaw07_SchedOne.j2]
        rw [if_pos hp0, r0, F3, Option.bind_some, if_neg c1]
      · unfold endF
        rw [if_pos (by omega)]; rfl
  have S1 : Ev (fun k => haulierlaw07_SchedOne.j1 k (if endF r s a b ≠ 0 then [] else ts) (if endF r s a b ≠ 0 then 0 else far) (endF r s a b) (bg1 s a) p c r l a.f0 a.f1 a.f2 a.f3 a.f4 a.f5 b.f0 b.f1 b.f2 b.f3 b.f4 b.f5) true := by
    refine Ev.step (fun k => ?_) S2
    simp only [haulierlaw07_SchedOne.j1]
    rw [F2, Option.bind_some, w64 (x := bg1 s a + a.f5) (by omega) (by omega), w64 (x := bg1 s a + a.f5 + farI a b) (by omega) (by omega)]
    by_cases c1 : bg1 s a + a.f5 + farI a b < b.f3
    · rw [if_pos c1, show b.f3 = bg2 s a b by unfold bg2; rw [if_pos c1]]
    · rw [if_neg c1, show bg1 s a + a.f5 + farI a b = bg2 s a b by unfold bg2; rw [if_neg c1]]
  refine Ev.step (f := fun k => (sched_Times.f k p c r l [(i : Int), wrap64 ((i : Int) + p)]).bind fun bt => haulierlaw07_SchedOne.j1 k bt.1 bt.2.1 bt.2.2 (bg1 s a) p c r l a.f0 a.f1 a.f2 a.f3 a.f4 a.f5 b.f0 b.f1 b.f2 b.f3 b.f4 b.f5) (fun k => ?_) (Ev.bind hT ?_)
  · simp only [haulierlaw07_SchedOne.j0]
    rw [if_neg Bool.false_ne_true, if_pos (by omega), if_pos (by omega), e2, if_pos (by omega), if_pos (by omega)]
    simp only [if_pos hp0, r0, ra, rb, F1, Option.bind_some]
    rw [w64 (x := s.f3 + farI s a) (by omega) (by omega)]
    by_cases c1 : s.f3 + farI s a < a.f3
    · simp only [if_pos c1, show bg1 s a = a.f3 by unfold bg1; rw [if_pos c1]]
    · simp only [if_neg c1, show bg1 s a = s.f3 + farI s a by unfold bg1; rw [if_neg c1]]
  · by_cases h0 : endF r s a b = 0
    · rw [if_neg (fun h => h h0)]
      rw [if_neg (fun h => h h0), if_neg (fun h => h h0), h0] at S1
      exact S1
    · rw [if_pos h0]
      rw [if_pos h0, if_pos h0] at S1
      exact S1
end Go.Proofs.Ytndfpbjpdoigfaa.Pure
