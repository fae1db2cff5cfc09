/- Sets of stops as bits: what the functions of haulierref02 come to; the iterator's list. -/
import Derived.Test.YtgnhokepcdopgaaDoorPAx3
import Derived.Test.YtgnhokepcdopgaaDoorPAx7
import Derived.Test.YtgnhokepcdopgaaDoorPAx5
import Derived.Test.YtgnhokepcdopgaaDoorSetLen
namespace Go.Proofs.YtgnhokepcdopgaaDoor.Sets
open Go.RowKit Go.Proofs.YtgnhokepcdopgaaDoor.PA Go.Proofs.YtgnhokepcdopgaaDoorW.PrintWords Go.Proofs.YtgnhokepcdopgaaDoorW.PrintLast Go.Proofs.YtgnhokepcdopgaaDoor.SetWalk
theorem rd_nat (l : List Int) (i : Nat) (h : i < l.length) : rd l (i : Int) = l[i] := by
  unfold rd
  simp [h]
theorem one_loop (i : Nat) (hi : i < 64) (d : Nat) : ∀ j : Nat, j + d = i → Ev (fun k => haulierref02_one.l0 k (i : Int) ((2 ^ j : Nat) : Int) (j : Int)) (((2 ^ i : Nat) : Int)) := by
  induction d with
  | zero =>
    intro j hj
    obtain rfl : j = i := by omega
    refine Ev.step (f := fun _ => some _) (fun k => ?_) (Ev.now _)
    simp only [haulierref02_one.l0]
    rw [if_neg (by omega)]
  | succ d ih =>
    intro j hj
    refine Ev.step (fun k => ?_) (ih (j + 1) (by omega))
    simp only [haulierref02_one.l0]
    rw [if_pos (by omega), nxt (by omega)]
    have := pow_lt (i := j + 1) (by omega)
    have e : ((2 ^ j : Nat) : Int) * 2 = ((2 ^ (j + 1) : Nat) : Int) := by rw [Nat.pow_succ]; omega
    rw [e, wu_nat this]
theorem one_ev {i : Nat} (hi : i < 64) : Ev (fun k => haulierref02_one.f k (i : Int)) (((2 ^ i : Nat) : Int)) := by
  have h1 : ¬ (i : Int) < 0 := by omega
  have h2 : decide ((i : Int) > 63) = false := by simp; omega
  simp only [haulierref02_one.f, if_neg h1, h2]
  refine Ev.step (fun k => ?_) (one_loop i hi i 0 (by omega))
  simp only [haulierref02_one.j0]
  rfl
theorem has_ev {n i : Nat} (hn : n < 2 ^ 64) (hi : i < 64) : Ev (fun k => haulierref02_Has.f k (n : Int) (i : Int)) (n.testBit i) := by
  simp only [haulierref02_Has.f]
  refine Ev.bind (one_ev hi) ?_
  have hp := pow_pos' i
  have h0 : ((2 ^ i : Nat) : Int) > 0 := by omega
  rw [if_pos h0, if_neg (by omega)]
  have hd : n / 2 ^ i < 2 ^ 64 := Nat.lt_of_le_of_lt (Nat.div_le_self _ _) hn
  rw [← Int.ofNat_tdiv, wu_nat hd]
  have e : (Int.tmod ((n / 2 ^ i : Nat) : Int) 2 == 1) = n.testBit i := by
    rw [Nat.testBit_eq_decide_div_mod_eq, Int.tmod_eq_emod_of_nonneg (Int.natCast_nonneg _), Bool.eq_iff_iff]
    generalize n / 2 ^ i = q
    simp only [beq_iff_eq, decide_eq_true_eq]
    omega
  rw [e]
  exact Ev.now _
theorem with_ev {n i : Nat} (hn : n < 2 ^ 64) (hi : i < 64) : Ev (fun k => haulierref02_With.f k (n : Int) (i : Int)) (((n ||| 2 ^ i : Nat) : Int)) := by
  simp only [haulierref02_With.f]
  refine Ev.bind (has_ev hn hi) ?_
  cases hb : n.testBit i with
  | true =>
    have e : n ||| 2 ^ i = n := by
      apply Nat.eq_of_testBit_eq
      intro j
      rw [or_bit]
      by_cases h : i = j
      · subst h; simp [hb]
      · simp [h]
    simp only [if_pos, e]
    exact Ev.now _
  | false =>
    simp only [Bool.false_eq_true, if_false]
    refine Ev.bind (one_ev hi) ?_
    rw [add_or hn hi hb]
    exact Ev.now _
/-- The stops of a set from i on, rising. -/
def from_ (n : Nat) : Nat → Nat → List Int
  | _, 0 => []
  | i, d + 1 => if n.testBit i then (i : Int) :: from_ n (i + 1) d else from_ n (i + 1) d
theorem mem_from (n : Nat) (d : Nat) : ∀ (i : Nat) (x : Int), x ∈ from_ n i d ↔ ∃ j : Nat, x = j ∧ i ≤ j ∧ j < i + d ∧ n.testBit j = true := by
  induction d with
  | zero => intro i x; simp [from_]; omega
  | succ d ih =>
    intro i x
    unfold from_
    cases h : n.testBit i with
    | true =>
      simp only [if_true, List.mem_cons, ih]
      constructor
      · rintro (rfl | ⟨j, rfl, h1, h2, h3⟩)
        · exact ⟨i, rfl, by omega, by omega, h⟩
        · exact ⟨j, rfl, by omega, by omega, h3⟩
      · rintro ⟨j, rfl, h1, h2, h3⟩
        by_cases e : j = i
        · exact .inl (by rw [e])
        · exact .inr ⟨j, rfl, by omega, by omega, h3⟩
    | false =>
      simp only [Bool.false_eq_true, if_false, ih]
      constructor
      · rintro ⟨j, rfl, h1, h2, h3⟩
        exact ⟨j, rfl, by omega, by omega, h3⟩
      · rintro ⟨j, rfl, h1, h2, h3⟩
        by_cases e : j = i
        · subst e; rw [h] at h3; exact absurd h3 (by simp)
        · exact ⟨j, rfl, by omega, by omega, h3⟩
theorem from_len (n : Nat) (d : Nat) : ∀ i, (from_ n i d).length ≤ d := by
  induction d with
  | zero => intro i; simp [from_]
  | succ d ih => intro i; unfold from_; have := ih (i + 1); split <;> simp <;> omega
theorem all_loop {n : Nat} (hn : n < 2 ^ 64) (d : Nat) : ∀ (i : Nat) (l : List Int), i + d = 64 → l.length ≤ i → Ev (fun k => haulierref02_All.l0 k (n : Int) l (i : Int)) (l ++ from_ n i d) := by
  induction d with
  | zero =>
    intro i l hi hl
    refine Ev.step (f := fun _ => some _) (fun k => ?_) (Ev.now _)
    simp only [haulierref02_All.l0, from_, List.append_nil]
    rw [if_neg (by omega)]
  | succ d ih =>
    intro i l hi hl
    apply Ev.succ
    simp only [haulierref02_All.l0]
    have h64 : (i : Int) < 64 := by omega
    simp only [if_pos h64, nxt (show i < 100 by omega)]
    refine Ev.bind (has_ev hn (by omega)) ?_
    unfold from_
    cases h : n.testBit i with
    | true =>
      have hll : l.length < 17592186044416 := by omega
      simp only [if_true, if_pos hll]
      have := ih (i + 1) (l ++ [(i : Int)]) (by omega) (by simp; omega)
      simpa using this
    | false =>
      simp only [Bool.false_eq_true, if_false]
      exact ih (i + 1) l (by omega) (by omega)
theorem all_ev {n : Nat} (hn : n < 2 ^ 64) : Ev (fun k => haulierref02_All.f k (n : Int)) (from_ n 0 64) := by
  have := all_loop hn 64 0 [] (by omega) (by simp)
  simp only [haulierref02_All.f]
  exact this
theorem within_loop {a b : Nat} (ha : a < 2 ^ 64) (hb : b < 2 ^ 64) (d : Nat) : ∀ i : Nat, i + d = 64 → (∀ j, j < i → a.testBit j = true → b.testBit j = true) → Ev (fun k => haulierref02_Within.l0 k (a : Int) (b : Int) (i : Int)) (decide (Sub a b)) := by
  induction d with
  | zero =>
    intro i hi h
    refine Ev.step (f := fun _ => some true) (fun k => ?_) ?_
    · simp only [haulierref02_Within.l0]; rw [if_neg (by omega)]
    · rw [decide_eq_true (show Sub a b from fun j hj => h j (by omega))]; exact Ev.now _
  | succ d ih =>
    intro i hi h
    apply Ev.succ
    simp only [haulierref02_Within.l0]
    have h64 : (i : Int) < 64 := by omega
    simp only [if_pos h64, nxt (show i < 100 by omega)]
    refine Ev.bind (has_ev ha (by omega)) ?_
    refine Ev.bind (has_ev hb (by omega)) ?_
    have go : (a.testBit i = true → b.testBit i = true) → Ev (fun k => haulierref02_Within.l0 k (a : Int) (b : Int) ((i + 1 : Nat) : Int)) (decide (Sub a b)) := by
      intro hc
      refine ih (i + 1) (by omega) (fun j hj => ?_)
      by_cases e : j = i
      · subst e; exact hc
      · exact h j (by omega)
    cases hta : a.testBit i with
    | false => simp only [Bool.false_eq_true, if_false]; exact go (by simp [hta])
    | true =>
      cases htb : b.testBit i with
      | true => simp only [if_true]; exact go (by simp [htb])
      | false =>
        simp only [Bool.false_eq_true, if_false, if_true]
        rw [decide_eq_false (fun hs : Sub a b => by have := hs i (by omega) hta; rw [htb] at this; exact absurd this (by simp))]
        exact Ev.now _
theorem within_ev {a b : Nat} (ha : a < 2 ^ 64) (hb : b < 2 ^ 64) : Ev (fun k => haulierref02_Within.f k (a : Int) (b : Int)) (decide (Sub a b)) := by
  have := within_loop ha hb 64 0 (by omega) (fun j hj => by omega)
  simp only [haulierref02_Within.f]
  exact this

theorem one_ev_any (x : Int) : Ev (fun k => haulierref02_one.f k x) ((bitN x : Nat) : Int) := by
  by_cases h : 0 ≤ x ∧ x ≤ 63
  · have := one_ev (i := x.toNat) (by omega)
    have e : bitN x = 2 ^ x.toNat := by unfold bitN; rw [if_pos h]
    rw [e]
    rwa [show ((x.toNat : Nat) : Int) = x by omega] at this
  · have e : bitN x = 0 := by unfold bitN; rw [if_neg h]
    rw [e]
    have z : Ev (fun k => haulierref02_one.j0 k x true) ((0 : Nat) : Int) := by
      refine Ev.step (f := fun _ => some 0) (fun k => ?_) (Ev.now _)
      simp only [haulierref02_one.j0, if_true]
    simp only [haulierref02_one.f]
    by_cases h0 : x < 0
    · simp only [if_pos h0]; exact z
    · simp only [if_neg h0, decide_eq_true (show x > 63 by omega)]; exact z
theorem has_ev_any {n : Nat} (hn : n < 2 ^ 64) (x : Int) : Ev (fun k => haulierref02_Has.f k (n : Int) x) (hasB n x) := by
  by_cases h : 0 ≤ x ∧ x ≤ 63
  · have := has_ev hn (i := x.toNat) (by omega)
    have e : hasB n x = n.testBit x.toNat := by unfold hasB; rw [decide_eq_true h, Bool.true_and]
    rw [e]
    rwa [show ((x.toNat : Nat) : Int) = x by omega] at this
  · have e : hasB n x = false := by unfold hasB; rw [decide_eq_false h, Bool.false_and]
    rw [e]
    have e2 : bitN x = 0 := by unfold bitN; rw [if_neg h]
    simp only [haulierref02_Has.f]
    refine Ev.bind (one_ev_any x) ?_
    rw [e2]
    rw [if_neg (by decide)]
    exact Ev.now _
/-! The iterator's list. -/
theorem low_zero {t i : Nat} (h : ∀ j, j < i → t.testBit j = false) : t % 2 ^ i = 0 := by
  apply Nat.eq_of_testBit_eq
  intro j
  rw [Nat.testBit_mod_two_pow, Nat.zero_testBit]
  by_cases hj : j < i
  · rw [h j hj, Bool.and_false]
  · rw [decide_eq_false hj, Bool.false_and]
theorem shape {t i : Nat} (h : ∀ j, j < i → t.testBit j = false) (hi : t.testBit i = true) : ∃ m, t = 2 ^ (i + 1) * m + 2 ^ i := by
  have h0 := low_zero h
  rw [Nat.testBit_eq_decide_div_mod_eq, decide_eq_true_eq] at hi
  refine ⟨t / 2 ^ i / 2, ?_⟩
  have e1 := Nat.div_add_mod t (2 ^ i)
  have e2 := Nat.div_add_mod (t / 2 ^ i) 2
  rw [hi] at e2
  rw [h0] at e1
  rw [Nat.pow_succ, Nat.mul_assoc]
  calc t = 2 ^ i * (t / 2 ^ i) := by omega
    _ = 2 ^ i * (2 * (t / 2 ^ i / 2) + 1) := by rw [e2]
    _ = _ := by rw [Nat.mul_add, Nat.mul_one]
theorem ctz_eq {t i : Nat} (ht : t < 2 ^ 64) (h : ∀ j, j < i → t.testBit j = false) (hi : t.testBit i = true) : Lib.ctz 64 t = i := by
  have h0 : 0 < t := by
    apply Nat.pos_of_ne_zero
    rintro rfl
    rw [Nat.zero_testBit] at hi
    exact absurd hi (by simp)
  obtain ⟨m, hm, _⟩ := Lib.ctzFrom_spec 64 t h0 ht
  have ec : Lib.ctz 64 t = Lib.ctzFrom 64 t := by unfold Lib.ctz; rw [if_neg (by omega)]
  rw [ec]
  generalize Lib.ctzFrom 64 t = c at hm
  have bc : t.testBit c = true := by
    rw [hm, Nat.testBit_eq_decide_div_mod_eq, Nat.mul_div_cancel_left _ (Nat.two_pow_pos c), decide_eq_true_eq]
    omega
  have bl : ∀ j, j < c → t.testBit j = false := by
    intro j hj
    rw [hm, Nat.testBit_two_pow_mul, decide_eq_false (by omega), Bool.false_and]
  rcases Nat.lt_trichotomy c i with hlt | he | hgt
  · rw [h c hlt] at bc; exact absurd bc (by simp)
  · exact he
  · rw [bl i hgt] at hi; exact absurd hi (by simp)
theorem down_bit {t i : Nat} (h : ∀ j, j < i → t.testBit j = false) (hi : t.testBit i = true) (j : Nat) : (t &&& (t - 1)).testBit j = (t.testBit j && decide (j ≠ i)) := by
  obtain ⟨m, rfl⟩ := shape h hi
  have hp := Nat.two_pow_pos i
  have lt1 : 2 ^ i < 2 ^ (i + 1) := Nat.pow_lt_pow_right (by decide) (by omega)
  have e : 2 ^ (i + 1) * m + 2 ^ i - 1 = 2 ^ (i + 1) * m + (2 ^ i - 1) := by omega
  rw [Nat.testBit_and, e, Nat.testBit_two_pow_mul_add _ lt1, Nat.testBit_two_pow_mul_add _ (show 2 ^ i - 1 < 2 ^ (i + 1) by omega)]
  by_cases hj : j < i + 1
  · rw [if_pos hj, if_pos hj, Nat.testBit_two_pow, Nat.testBit_two_pow_sub_one]
    by_cases hij : i = j
    · subst hij; simp
    · simp [hij]
  · rw [if_neg hj, if_neg hj, Bool.and_self, decide_eq_true (show j ≠ i by omega), Bool.and_true]
theorem from_congr {a b : Nat} (d : Nat) : ∀ i, (∀ j, i ≤ j → a.testBit j = b.testBit j) → from_ a i d = from_ b i d := by
  induction d with
  | zero => intro i _; rfl
  | succ d ih =>
    intro i h
    unfold from_
    rw [h i (Nat.le_refl _), ih (i + 1) (fun j hj => h j (by omega))]
theorem bitsF_from (d : Nat) : ∀ (i t : Nat), i + d = 64 → t < 2 ^ 64 → (∀ j, j < i → t.testBit j = false) → bitsF t = from_ t i d := by
  induction d with
  | zero =>
    intro i t hi ht h
    have : t = 0 := by
      apply Nat.eq_of_testBit_eq
      intro j
      rw [Nat.zero_testBit]
      by_cases hj : j < 64
      · exact h j (by omega)
      · exact bit_high ht (by omega)
    subst this
    rw [bitsF_zero]; rfl
  | succ d ih =>
    intro i t hi ht h
    unfold from_
    cases hb : t.testBit i with
    | false =>
      simp only [Bool.false_eq_true, if_false]
      exact ih (i + 1) t (by omega) ht (fun j hj => by
        by_cases e : j = i
        · subst e; exact hb
        · exact h j (by omega))
    | true =>
      simp only [if_true]
      have h0 : t ≠ 0 := by rintro rfl; rw [Nat.zero_testBit] at hb; exact absurd hb (by simp)
      have db := down_bit h hb
      have hl : t &&& (t - 1) < 2 ^ 64 := Nat.lt_of_le_of_lt Nat.and_le_left ht
      rw [bitsF_pos h0, ctz_eq ht h hb, ih (i + 1) (t &&& (t - 1)) (by omega) hl (fun j hj => by
        rw [db]
        by_cases e : j = i
        · subst e; simp
        · rw [h j (by omega)]; rfl)]
      rw [from_congr (a := t &&& (t - 1)) (b := t) d (i + 1) (fun j hj => by rw [db, decide_eq_true (show j ≠ i by omega), Bool.and_true])]
theorem bitsF_eq {t : Nat} (ht : t < 2 ^ 64) : bitsF t = from_ t 0 64 := bitsF_from 64 0 t (by omega) ht (fun j hj => by omega)
theorem all_eq {t : Nat} (ht : t < 2 ^ 64) : set_All.f (t : Int) = some (from_ t 0 64) := by
  unfold set_All.f
  rw [Int.toNat_natCast, bitsF_eq ht, if_pos ⟨by omega, by omega, from_len _ _ _⟩]
theorem from_cnt (n : Nat) : ∀ (d i : Nat), (from_ n i d).length = cnt d (n / 2 ^ i)
  | 0, _ => rfl
  | d + 1, i => by
    have ih := from_cnt n d (i + 1)
    have e : n / 2 ^ i / 2 = n / 2 ^ (i + 1) := by rw [Nat.div_div_eq_div_mul, Nat.pow_succ]
    unfold from_ cnt
    rw [e, ← ih]
    cases hb : n.testBit i with
    | true =>
      rw [Nat.testBit_eq_decide_div_mod_eq, decide_eq_true_eq] at hb
      simp only [if_true, List.length_cons, hb]
      omega
    | false =>
      rw [Nat.testBit_eq_decide_div_mod_eq, decide_eq_false_iff_not] at hb
      have : n / 2 ^ i % 2 = 0 := by omega
      simp only [Bool.false_eq_true, if_false, this, Nat.zero_add]
theorem all_len (n : Nat) : (from_ n 0 64).length = cnt 64 n := by rw [from_cnt, Nat.pow_zero, Nat.div_one]
theorem same_loop (l : List Int) (hl : l.length ≤ 64) (d : Nat) : ∀ i : Nat, i + d = l.length → Ev (fun k => haulierref02_Same.l0 k l l (i : Int)) true := by
  induction d with
  | zero =>
    intro i hi
    refine Ev.step (f := fun _ => some true) (fun k => ?_) (Ev.now _)
    simp only [haulierref02_Same.l0]
    rw [if_neg (by omega)]
  | succ d ih =>
    intro i hi
    refine Ev.step (fun k => ?_) (ih (i + 1) (by omega))
    simp only [haulierref02_Same.l0]
    rw [if_pos (by omega), if_pos (by omega), if_pos (by omega), if_pos trivial, nxt (by omega)]
theorem same_ev (l : List Int) (hl : l.length ≤ 64) : Ev (fun k => haulierref02_Same.f k l l) true := by
  have h := same_loop l hl l.length 0 (by omega)
  simp only [haulierref02_Same.f, if_true]
  exact h
end Go.Proofs.YtgnhokepcdopgaaDoor.Sets
