import Derived.Test.YtkcdpnigcbcalaaDefRelaxTwice
import Derived.Test.YtkcdpnigcbcalaaRelaxBase
namespace Go.Proofs.Ytkcdpnigcbcalaa.Pure
open Go.RowKit Go.Proofs.Ytkcdpnigcbcalaa.PA Go.Proofs.YtkcdpnigcbcalaaW.PrintWords Go.Proofs.YtkcdpnigcbcalaaW.PrintLast Go.Proofs.Ytkcdpnigcbcalaa.Sets Go.Proofs.Ytkcdpnigcbcalaa.Rel
def dup (l : List St) : Nat → List St
  | 0 => []
  | i + 1 => dup l i ++ [l.getD (l.length - 1 - i) zeroS, l.getD i zeroS]
theorem dup_len (l : List St) (i : Nat) : (dup l i).length = 2 * i := by
  induction i with
  | zero => rfl
  | succ i ih => simp [dup, ih]; omega
theorem dup_mem (l : List St) : ∀ t, t ∈ l ↔ t ∈ dup l l.length := by
  have h : ∀ i, i ≤ l.length → ∀ t, (t ∈ dup l i → t ∈ l) ∧ (∀ j, j < i → l.getD j zeroS ∈ dup l i) := by
    intro i
    induction i with
    | zero => intro _ t; exact ⟨fun h => by simp [dup] at h, fun j hj => by omega⟩
    | succ i ih =>
      intro hi t
      have ⟨h1, h2⟩ := ih (by omega) t
      constructor
      · intro ht
        have g : ∀ j, j < l.length → l.getD j zeroS ∈ l := fun j hj => by rw [← List.getElem_eq_getD (h := hj)]; exact List.getElem_mem _
        rcases List.mem_append.1 ht with ht | ht
        · exact h1 ht
        · simp only [List.mem_cons, List.not_mem_nil, or_false] at ht
          rcases ht with rfl | rfl
          · exact g _ (by omega)
          · exact g _ (by omega)
      · intro j hj
        by_cases e : j = i
        · subst e; simp [dup]
        · exact List.mem_append.2 (.inl (h2 j (by omega)))
  intro t
  constructor
  · intro ht
    obtain ⟨j, hj, rfl⟩ := List.getElem_of_mem ht
    have := (h l.length (Nat.le_refl _) l[j]).2 j hj
    rwa [← List.getElem_eq_getD (h := hj)] at this
  · exact (h l.length (Nat.le_refl _) t).1
theorem rdT_getD (l : List St) (i : Nat) (h : i < l.length) : rd_T24 l (i : Int) = l.getD i zeroS := by
  rw [rdT_nat l i h, ← List.getElem_eq_getD (h := h)]
/-- The parts make the whole. -/
theorem parts {l p q : List St} (hl : ∀ t ∈ l, OK t) (e : l = p ++ q) (hp : p ≠ []) (hq : q ≠ []) :
    ((joinP p).2 = true → (joinP q).2 = true → joinP [(joinP p).1, (joinP q).1] = joinP l) ∧ (((joinP p).2 = false ∨ (joinP q).2 = false) → (joinP l).2 = false) := by
  subst e
  have op : ∀ t ∈ p, OK t := fun t ht => hl t (List.mem_append.2 (.inl ht))
  have oq : ∀ t ∈ q, OK t := fun t ht => hl t (List.mem_append.2 (.inr ht))
  have bad : ∀ t ∈ p ++ q, ∀ u ∈ p ++ q, t.f0 ≠ u.f0 → joinP (p ++ q) = (zeroS, false) := by
    intro t ht u hu hn
    rcases joinP_cases _ hl with ⟨e, _⟩ | ⟨e, _, s, _⟩
    · exact e
    · exact absurd (s t ht u hu) hn
  constructor
  · intro tp tq
    rcases joinP_cases p op with ⟨e, _⟩ | ⟨ep, np, sp, okp, bp, gp⟩
    · rw [e] at tp; exact absurd tp (by simp)
    rcases joinP_cases q oq with ⟨e, _⟩ | ⟨eq, nq, sq, okq, bq, gq⟩
    · rw [e] at tq; exact absurd tq (by simp)
    generalize (joinP p).1 = x at *
    generalize (joinP q).1 = y at *
    have oxy : ∀ t ∈ [x, y], OK t := by intro t ht; simp only [List.mem_cons, List.not_mem_nil, or_false] at ht; rcases ht with rfl | rfl <;> assumption
    obtain ⟨u, hu⟩ := List.exists_mem_of_ne_nil _ hp
    obtain ⟨v, hv⟩ := List.exists_mem_of_ne_nil _ hq
    have ex : x.f0 = u.f0 := (bp u hu).1
    have ey : y.f0 = v.f0 := (bq v hv).1
    rcases joinP_cases _ oxy with ⟨e, c⟩ | ⟨e, n, s, o, b, g⟩
    · rw [e]
      rcases c with c | ⟨t, ht, w, hw, hn⟩
      · exact absurd c (by simp)
      · refine (bad u (List.mem_append.2 (.inl hu)) v (List.mem_append.2 (.inr hv)) (fun hh => hn ?_)).symm
        simp only [List.mem_cons, List.not_mem_nil, or_false] at ht hw
        rcases ht with rfl | rfl <;> rcases hw with rfl | rfl <;> first | rfl | (rw [ex, ey, hh])
    · have exy : x.f0 = y.f0 := s x (by simp) y (by simp)
      rcases joinP_cases _ hl with ⟨e', c⟩ | ⟨e', n', s', o', b', g'⟩
      · exfalso
        rcases c with c | ⟨t, ht, w, hw, hn⟩
        · exact hp (List.append_eq_nil_iff.1 c).1
        · have all : ∀ t ∈ p ++ q, t.f0 = x.f0 := by
            intro t ht
            rcases List.mem_append.1 ht with ht | ht
            · exact (bp t ht).1.symm
            · rw [exy]; exact (bq t ht).1.symm
          exact hn (by rw [all t ht, all w hw])
      · refine Prod.ext ?_ (by rw [e, e'])
        refine cov_anti o o' (g' _ (fun t ht => ?_)) (g _ (fun t ht => ?_))
        · rcases List.mem_append.1 ht with ht | ht
          · exact cov_trans (b x (by simp)) (bp t ht)
          · exact cov_trans (b y (by simp)) (bq t ht)
        · simp only [List.mem_cons, List.not_mem_nil, or_false] at ht
          rcases ht with rfl | rfl
          · exact gp _ (fun t ht => b' t (List.mem_append.2 (.inl ht)))
          · exact gq _ (fun t ht => b' t (List.mem_append.2 (.inr ht)))
  · intro h
    have part : ∀ {m : List St}, (∀ t ∈ m, t ∈ p ++ q) → m ≠ [] → (∀ t ∈ m, OK t) → (joinP m).2 = false → (joinP (p ++ q)).2 = false := by
      intro m hm hn om hf
      rcases joinP_cases m om with ⟨_, c⟩ | ⟨e, _⟩
      · rcases c with c | ⟨t, ht, u, hu, hne⟩
        · exact absurd c hn
        · rw [bad t (hm t ht) u (hm u hu) hne]
      · rw [e] at hf; exact absurd hf (by simp)
    rcases h with h | h
    · exact part (fun t ht => List.mem_append.2 (.inl ht)) hp op h
    · exact part (fun t ht => List.mem_append.2 (.inr ht)) hq oq h
theorem twice_end (l : List St) (cut : Int) (hl : l.length ≤ 30) (ol : ∀ t ∈ l, OK t) (c1 : 1 ≤ cut) (c2 : cut < l.length) (d : Nat) : ∀ i : Nat, i + d = l.length →
    Ev (fun k => haulierlaw11_RelaxTwice.l0 k l cut (dup l i) (i : Int)) true := by
  induction d with
  | zero =>
    intro i hi
    obtain rfl : i = l.length := by omega
    refine Ev.step (f := fun _ => some true) (fun k => ?_) (Ev.now _)
    simp only [haulierlaw11_RelaxTwice.l0]
    have hd := dup_len l l.length
    have hlt : ¬ ((l.length : Int) < (l.length : Int)) := by omega
    have t1 : (l.take cut.toNat).length ≤ 1000000000 := by simp only [List.length_take]; omega
    have t2 : (l.drop cut.toNat).length ≤ 1000000000 := by simp only [List.length_drop]; omega
    have e : l = l.take cut.toNat ++ l.drop cut.toNat := (List.take_append_drop _ _).symm
    have ⟨p1, p2⟩ := parts ol e (fun h => by have := congrArg List.length h; simp only [List.length_take, List.length_nil] at this; omega) (fun h => by have := congrArg List.length h; simp only [List.length_drop, List.length_nil] at this; omega)
    have same := joinP_same ol (dup_mem l)
    rw [if_neg hlt, join_eq (l := l) (by omega), join_eq (l := dup l l.length) (by omega), join_eq t1, join_eq t2, ← same]
    generalize joinP (l.take cut.toNat) = p at *
    generalize joinP (l.drop cut.toNat) = q at *
    simp only [Option.bind_some]
    rw [if_pos (by omega), if_pos (by omega)]
    have tp : (tup p).2.2.2.2.2.2.2.2 = p.2 := rfl
    have tq : (tup q).2.2.2.2.2.2.2.2 = q.2 := rfl
    have tl : (tup (joinP l)).2.2.2.2.2.2.2.2 = (joinP l).2 := rfl
    rw [tp, tq, tl]
    cases hp : p.2 with
    | false =>
      rw [p2 (.inl hp)]
      rfl
    | true =>
      cases hq : q.2 with
      | false =>
        rw [p2 (.inr hq)]
        rfl
      | true =>
        have e3 := p1 hp hq
        simp only [if_true]
        have e4 : ([(⟨(tup p).1, (tup p).2.1, (tup p).2.2.1, (tup p).2.2.2.1, (tup p).2.2.2.2.1, (tup p).2.2.2.2.2.1, (tup p).2.2.2.2.2.2.1, (tup p).2.2.2.2.2.2.2.1⟩ : St), (⟨(tup q).1, (tup q).2.1, (tup q).2.2.1, (tup q).2.2.2.1, (tup q).2.2.2.2.1, (tup q).2.2.2.2.2.1, (tup q).2.2.2.2.2.2.1, (tup q).2.2.2.2.2.2.2.1⟩ : St)] : List St) = [p.1, q.1] := rfl
        rw [e4, join_eq (by simp), e3]
        simp only [Option.bind_some]
        rw [if_pos ((tup_eqb _ _).2 rfl), if_pos (by simp)]
        simp
        exact tl
  | succ d ih =>
    intro i hi
    have hlt : i < l.length := by omega
    apply Ev.succ
    simp only [haulierlaw11_RelaxTwice.l0]
    have e1 : wrap64 ((wrap64 ((l.length : Int) - 1)) - (i : Int)) = ((l.length - 1 - i : Nat) : Int) := by
      rw [w64 (x := (l.length : Int) - 1) (by omega) (by omega), w64 (by omega) (by omega)]; omega
    have h1 : (i : Int) < (l.length : Int) := by omega
    have h2 : 0 ≤ (i : Int) := by omega
    have h3 : 0 ≤ ((l.length - 1 - i : Nat) : Int) := by omega
    have h4 : ((l.length - 1 - i : Nat) : Int) < (l.length : Int) := by omega
    have h5 : (dup l i).length + 2 < 2199023255552 := by rw [dup_len]; omega
    simp only [e1, if_pos h1, if_pos h2, if_pos h3, if_pos h4, nxt (show i < 100 by omega), Option.bind_some, List.length_cons, List.length_nil, if_pos h5, rdT_getD l i hlt, rdT_getD l (l.length - 1 - i) (by omega)]
    exact ih (i + 1) (by omega)
theorem RelaxTwice : haulierlaw11_RelaxTwice.Claim := by
  intro l cut hl hc
  apply Ev.rounds
  have ol : ∀ t ∈ l, OK t := fun t ht => ok_wf (hl.2 t ht)
  simp only [haulierlaw11_RelaxTwice.f, awake_eq, Option.bind_some, if_true]
  have out : Ev (fun k => haulierlaw11_RelaxTwice.j0 k l cut true true) true := Ev.step (f := fun _ => some true) (fun k => by simp only [haulierlaw11_RelaxTwice.j0, if_true]) (Ev.now _)
  by_cases h1 : (l.length : Int) > 30
  · simp only [if_pos h1]; exact out
  simp only [if_neg h1]
  by_cases h2 : cut < 1
  · simp only [if_pos h2]; exact out
  simp only [if_neg h2]
  by_cases h3 : cut ≥ (l.length : Int)
  · simp only [h3, decide_true]; exact out
  simp only [h3, decide_false]
  apply Ev.succ
  simp only [haulierlaw11_RelaxTwice.j0, Bool.false_eq_true, if_false]
  exact twice_end l cut (by omega) ol (by omega) (by omega) l.length 0 (by omega)
end Go.Proofs.Ytkcdpnigcbcalaa.Pure
