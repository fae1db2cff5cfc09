import Derived.Test.YtgnhokepcdopgaaDoorDefSetMakes
import Derived.Test.YtgnhokepcdopgaaDoorSetSh
import Derived.Test.YtgnhokepcdopgaaDoorSetUp
namespace Go.Proofs.YtgnhokepcdopgaaDoor.Pure
open Go.RowKit Go.Proofs.YtgnhokepcdopgaaDoor.PA Go.Proofs.YtgnhokepcdopgaaDoorW.PrintWords Go.Proofs.YtgnhokepcdopgaaDoorW.PrintLast Go.Proofs.YtgnhokepcdopgaaDoor.Sets Go.Proofs.YtgnhokepcdopgaaDoor.SetWalk
theorem with_any {n : Nat} (hn : n < 2 ^ 64) (x : Int) : Ev (fun k => haulierref02_With.f k (n : Int) x) (((n ||| bitN x : Nat)) : Int) := by
  simp only [haulierref02_With.f]
  refine Ev.bind (has_ev_any hn x) ?_
  cases hb : hasB n x with
  | true =>
    have e : n ||| bitN x = n := by
      apply Nat.eq_of_testBit_eq
      intro j
      rw [Nat.testBit_or, bitN_bit]
      by_cases h : x = (j : Int) ∧ j ≤ 63
      · unfold hasB at hb
        rw [decide_eq_true (by omega), Bool.true_and, show x.toNat = j by omega] at hb
        rw [hb]; rfl
      · rw [decide_eq_false h, Bool.or_false]
    simp only [if_true, e]
    exact Ev.now _
  | false =>
    simp only [Bool.false_eq_true, if_false]
    refine Ev.bind (one_ev_any x) ?_
    have e : IntKind.u64.wrap ((n : Int) + ((bitN x : Nat) : Int)) = ((n ||| bitN x : Nat) : Int) := by
      by_cases h : 0 ≤ x ∧ x ≤ 63
      · have eb : bitN x = 2 ^ x.toNat := by unfold bitN; rw [if_pos h]
        unfold hasB at hb
        rw [decide_eq_true h, Bool.true_and] at hb
        rw [eb]
        exact add_or hn (by omega) hb
      · have eb : bitN x = 0 := by unfold bitN; rw [if_neg h]
        rw [eb, Nat.or_zero]
        have := wu_nat hn
        rw [Int.natCast_zero, Int.add_zero]
        exact this
    rw [e]
    exact Ev.now _
theorem refOf_loop (l : List Int) (hl : l.length < 1000) (d : Nat) : ∀ (i a : Nat), i + d = l.length → a < 2 ^ 64 → Ev (fun k => haulierref02_Of.l0 k l (a : Int) (i : Int)) ((orsB a (l.drop i) : Nat) : Int) := by
  induction d with
  | zero =>
    intro i a hi ha
    refine Ev.step (f := fun _ => some (a : Int)) (fun k => ?_) ?_
    · simp only [haulierref02_Of.l0]; rw [if_neg (by omega)]
    · rw [List.drop_of_length_le (by omega)]; exact Ev.now _
  | succ d ih =>
    intro i a hi ha
    have hlt : i < l.length := by omega
    rw [List.drop_eq_getElem_cons hlt]
    have e : orsB a (l[i] :: l.drop (i + 1)) = orsB (a ||| bitN l[i]) (l.drop (i + 1)) := rfl
    rw [e]
    apply Ev.succ
    have h1 : (i : Int) < (l.length : Int) := by omega
    have h2 : 0 ≤ (i : Int) := by omega
    simp only [haulierref02_Of.l0, if_pos h1, if_pos h2, rd_nat l i hlt, nxt' (show i < 1000 by omega)]
    refine Ev.bind (with_any ha l[i]) ?_
    exact ih (i + 1) _ (by omega) (Nat.or_lt_two_pow ha (bitN_lt l[i]))
theorem refOf_ev (l : List Int) (hl : l.length < 1000) : Ev (fun k => haulierref02_Of.f k l) ((orsB 0 l : Nat) : Int) := by
  have h := refOf_loop l hl l.length 0 0 (by omega) (by decide)
  simp only [haulierref02_Of.f]
  exact h
theorem refWithout_ev {n : Nat} (hn : n < 2 ^ 64) (x : Int) : Ev (fun k => haulierref02_Without.f k (n : Int) x) ((andN n (bitN x) : Nat) : Int) := by
  simp only [haulierref02_Without.f]
  refine Ev.bind (has_ev_any hn x) ?_
  cases hb : hasB n x with
  | false =>
    have e : andN n (bitN x) = n := bits_ext (andN_lt _ _) hn fun j hj => by
      rw [andN_bit _ _ hj, bitN_bit]
      by_cases h : x = (j : Int) ∧ j ≤ 63
      · unfold hasB at hb
        rw [decide_eq_true (by omega), Bool.true_and, show x.toNat = j by omega] at hb
        rw [hb]; rfl
      · rw [decide_eq_false h, Bool.not_false, Bool.and_true]
    simp only [Bool.false_eq_true, if_false, e]
    exact Ev.now _
  | true =>
    simp only [if_true]
    refine Ev.bind (one_ev_any x) ?_
    unfold hasB at hb
    rw [Bool.and_eq_true, decide_eq_true_eq] at hb
    obtain ⟨h, hb⟩ := hb
    have eb : bitN x = 2 ^ x.toNat := by unfold bitN; rw [if_pos h]
    have hi : x.toNat < 64 := by omega
    have lo := andN_lt n (bitN x)
    have bz : (andN n (bitN x)).testBit x.toNat = false := by
      rw [andN_bit _ _ hi, bitN_bit, decide_eq_true (by omega)]
      simp
    have ha := add_or lo hi bz
    have eo : andN n (bitN x) ||| 2 ^ x.toNat = n := bits_ext (Nat.or_lt_two_pow lo (pow_lt hi)) hn fun j hj => by
      rw [Nat.testBit_or, andN_bit _ _ hj, ← eb, bitN_bit]
      by_cases e : x = (j : Int) ∧ j ≤ 63
      · rw [decide_eq_true e]
        rw [show x.toNat = j by omega] at hb
        rw [hb]; rfl
      · rw [decide_eq_false e]; simp
    rw [eo] at ha
    have hp := pow_lt hi
    have e : IntKind.u64.wrap ((n : Int) - ((bitN x : Nat) : Int)) = ((andN n (bitN x) : Nat) : Int) := by
      rw [eb] at *
      rw [IntKind.wrap_u64] at *
      omega
    rw [e]
    exact Ev.now _
theorem refUpto_loop (x : Int) (c : Nat) (hc : c ≤ 63) (hx : mn (mx x 0) 63 = (c : Int)) (d : Nat) : ∀ j, j + d = c → Ev (fun k => haulierref02_Upto.l0 k x ((upN j : Nat) : Int) ((j + 1 : Nat) : Int)) ((upN c : Nat) : Int) := by
  have hx' : (x < 0 ∧ c = 0) ∨ (0 ≤ x ∧ x ≤ 63 ∧ x = c) ∨ (63 < x ∧ c = 63) := by
    unfold mn mx at hx
    repeat' split at hx
    all_goals omega
  induction d with
  | zero =>
    intro j hj
    obtain rfl : j = c := by omega
    refine Ev.step (f := fun _ => some ((upN j : Nat) : Int)) (fun k => ?_) (Ev.now _)
    simp only [haulierref02_Upto.l0]
    by_cases h : ((j + 1 : Nat) : Int) ≤ x
    · rw [if_pos h, if_neg (by omega)]
    · rw [if_neg h]
  | succ d ih =>
    intro j hj
    apply Ev.succ
    have h1 : ((j + 1 : Nat) : Int) ≤ x := by omega
    have h2 : ((j + 1 : Nat) : Int) < 64 := by omega
    simp only [haulierref02_Upto.l0, if_pos h1, if_pos h2, nxt' (show j + 1 < 1000 by omega)]
    refine Ev.bind (with_any (upN_lt j (by omega)) _) ?_
    have e : bitN ((j + 1 : Nat) : Int) = 2 ^ (j + 1) := by unfold bitN; rw [if_pos (by omega)]; rfl
    rw [e, upN_step j (by omega)]
    exact ih (j + 1) (by omega)
theorem clamp (x : Int) : ∃ c : Nat, c ≤ 63 ∧ mn (mx x 0) 63 = (c : Int) := by
  refine ⟨(mn (mx x 0) 63).toNat, ?_, ?_⟩
  all_goals
    unfold mn mx
    repeat' split
    all_goals omega
theorem shB_out {s : Nat} {b : Int} (hb : ¬ (-63 ≤ b ∧ b ≤ 63)) : shB b s = 0 := by
  refine bits_ext (shB_lt _ _) (by decide) fun j hj => ?_
  rw [shB_bit _ _ hj, Nat.zero_testBit]
  have : ¬ (0 ≤ (j : Int) - b ∧ (j : Int) - b ≤ 63) := by omega
  rw [decide_eq_false this, Bool.false_and]
theorem shift_any {s : Nat} (ls : s < 2 ^ 64) (b : Int) : set_Shift.f (s : Int) b = some ((shB b s : Nat) : Int) := by
  by_cases hb : -63 ≤ b ∧ b ≤ 63
  · exact shift_eq ls b hb
  · unfold set_Shift.f
    rw [if_pos ⟨by omega, by omega⟩, shB_out hb]
    have : ∀ l : List Int, shF b l = 0 := by
      intro l
      unfold shF
      induction l with
      | nil => rfl
      | cons x l ih =>
        have e : shStep b 0 x = 0 := by unfold shStep; rw [if_neg hb]
        rw [List.foldl_cons, e, ih]
    rw [this]; rfl
theorem refShift_loop (b : Int) (hb : -64 ≤ b ∧ b ≤ 64) (l : List Int) (hl : l.length ≤ 64) (hm : ∀ x ∈ l, 0 ≤ x ∧ x ≤ 63) (d : Nat) : ∀ (i a : Nat), i + d = l.length → a < 2 ^ 64 →
    Ev (fun k => haulierref02_Shift.l0 k b (a : Int) l (i : Int)) ((orsB a ((l.drop i).map fun x => x + b) : Nat) : Int) := by
  induction d with
  | zero =>
    intro i a hi ha
    refine Ev.step (f := fun _ => some (a : Int)) (fun k => ?_) ?_
    · simp only [haulierref02_Shift.l0]; rw [if_neg (by omega)]
    · rw [List.drop_of_length_le (by omega)]; exact Ev.now _
  | succ d ih =>
    intro i a hi ha
    have hlt : i < l.length := by omega
    have hx := hm l[i] (List.getElem_mem _)
    rw [List.drop_eq_getElem_cons hlt]
    have e : orsB a ((l[i] :: l.drop (i + 1)).map fun x => x + b) = orsB (a ||| bitN (l[i] + b)) ((l.drop (i + 1)).map fun x => x + b) := rfl
    rw [e]
    apply Ev.succ
    have h1 : (i : Int) < (l.length : Int) := by omega
    have h2 : 0 ≤ (i : Int) := by omega
    have wx : wrap64 (l[i] + b) = l[i] + b := w64 (by omega) (by omega)
    simp only [haulierref02_Shift.l0, if_pos h1, if_pos h2, rd_nat l i hlt, nxt' (show i < 1000 by omega), wx]
    refine Ev.bind (with_any ha _) ?_
    exact ih (i + 1) _ (by omega) (Nat.or_lt_two_pow ha (bitN_lt _))
theorem refShift_ev {s : Nat} (ls : s < 2 ^ 64) (b : Int) : Ev (fun k => haulierref02_Shift.f k (s : Int) b) ((shB b s : Nat) : Int) := by
  have z : (¬ (-63 ≤ b ∧ b ≤ 63)) → Ev (fun k => haulierref02_Shift.j0 k (s : Int) b 0 true) ((shB b s : Nat) : Int) := by
    intro hb
    rw [shB_out hb]
    refine Ev.step (f := fun _ => some 0) (fun k => ?_) (Ev.now _)
    simp only [haulierref02_Shift.j0, if_true]
  simp only [haulierref02_Shift.f]
  by_cases h0 : b < -64
  · simp only [if_pos h0]; exact z (by omega)
  simp only [if_neg h0]
  by_cases h1 : b > 64
  · simp only [decide_eq_true h1]; exact z (by omega)
  simp only [decide_eq_false h1]
  apply Ev.succ
  simp only [haulierref02_Shift.j0, Bool.false_eq_true, if_false]
  refine Ev.bind (all_ev ls) ?_
  have h := refShift_loop b (by omega) (from_ s 0 64) (from_len _ _ _) (fun x hx => by
    obtain ⟨j, rfl, _, h, _⟩ := (mem_from s 64 0 x).1 hx
    omega) _ 0 0 (by rw [Nat.zero_add]) (by decide)
  exact h
theorem SetMakes : haulierlaw02_SetMakes.Claim := by
  intro s i l hs hi hl
  obtain ⟨s, rfl, ls⟩ := wfu_nat hs
  refine Ev.rounds ?_
  simp only [haulierlaw02_SetMakes.f]
  refine Ev.bind awake_ev ?_
  simp only [if_true]
  by_cases h0 : (l.length : Int) > 200
  · simp only [decide_eq_true h0]
    apply Ev.succ
    simp only [haulierlaw02_SetMakes.j0, if_true]
    exact Ev.now _
  simp only [decide_eq_false h0]
  obtain ⟨c, hc, ec⟩ := clamp i
  apply Ev.succ
  simp only [haulierlaw02_SetMakes.j0, Bool.false_eq_true, if_false]
  refine Ev.bind (of_ev l (by omega)) ?_
  refine Ev.bind (refOf_ev l (by omega)) ?_
  simp only [if_true]
  rw [with_eq ls, without_eq]
  refine Ev.bind (Ev.now _) ?_
  refine Ev.bind (with_any ls i) ?_
  simp only [if_true]
  refine Ev.bind (Ev.now _) ?_
  refine Ev.bind (refWithout_ev ls i) ?_
  simp only [if_true]
  have u1 : Ev (fun k => set_Upto.f k i) ((upN c : Nat) : Int) := by
    have h := upto_loop c hc c 0 (by omega)
    simp only [set_Upto.f, ec]
    exact h
  have u2 : Ev (fun k => haulierref02_Upto.f k i) ((upN c : Nat) : Int) := by
    have h := refUpto_loop i c hc ec c 0 (by omega)
    simp only [haulierref02_Upto.f]
    exact h
  refine Ev.bind u1 ?_
  refine Ev.bind u2 ?_
  simp only [if_true]
  rw [shift_any ls]
  refine Ev.bind (Ev.now _) ?_
  refine Ev.bind (refShift_ev ls i) ?_
  have e : (((shB i s : Nat) : Int) == ((shB i s : Nat) : Int)) = true := BEq.rfl
  rw [e]
  exact Ev.now _
end Go.Proofs.YtgnhokepcdopgaaDoor.Pure
