/- Sets of stops as bits: what the functions of haulierref02 come to. No condition. -/
import Derived.Test.YtkcdpnigcbcalaaPAx3
import Derived.Test.YtkcdpnigcbcalaaPAx5
import Derived.Laws.BitsLemmas
import Derived.Laws.Bits64
namespace Go.Proofs.Ytkcdpnigcbcalaa.Sets
open Go.RowKit Go.Proofs.Ytkcdpnigcbcalaa.PA Go.Proofs.YtkcdpnigcbcalaaW.PrintWords Go.Proofs.YtkcdpnigcbcalaaW.PrintLast

theorem w64 {x : Int} (h : -9223372036854775808 ≤ x) (h' : x ≤ 9223372036854775807) : wrap64 x = x := by unfold wrap64; omega
theorem wu {x : Int} (h : 0 ≤ x) (h' : x < 18446744073709551616) : IntKind.u64.wrap x = x := by rw [IntKind.wrap_u64]; omega
theorem wu_nat {n : Nat} (h : n < 2 ^ 64) : IntKind.u64.wrap (n : Int) = n := wu (by omega) (by omega)
theorem wfi {x : Int} (h : (Lit.int .i64 x).wf = true) : -9223372036854775808 ≤ x ∧ x ≤ 9223372036854775807 := by
  simp [Lit.wf, IntKind.min, IntKind.max, IntKind.bits, IntKind.signed] at h
  omega
theorem wfu {x : Int} (h : (Lit.int .u64 x).wf = true) : 0 ≤ x ∧ x < 18446744073709551616 := by
  simp [Lit.wf, IntKind.min, IntKind.max, IntKind.bits, IntKind.signed] at h
  omega
theorem wfu_nat {x : Int} (h : (Lit.int .u64 x).wf = true) : ∃ n : Nat, x = n ∧ n < 2 ^ 64 := by
  have := wfu h
  exact ⟨x.toNat, by omega, by omega⟩
theorem nxt {i : Nat} (h : i < 100) : wrap64 ((i : Int) + 1) = ((i + 1 : Nat) : Int) := by rw [w64 (by omega) (by omega)]; omega

theorem Ev.succ {α : Type} {g : Nat → Option α} {r : α} (h : Ev (fun k => g (k + 1)) r) : Ev g r := Ev.step (fun _ => rfl) h

/-! Bits. -/
theorem pow_pos' (i : Nat) : 0 < 2 ^ i := Nat.two_pow_pos i
theorem pow_lt {i : Nat} (h : i < 64) : 2 ^ i < 2 ^ 64 := Nat.pow_lt_pow_right (by decide) h
theorem bit_high {n i : Nat} (h : n < 2 ^ 64) (hi : 64 ≤ i) : n.testBit i = false := Nat.testBit_lt_two_pow (Nat.lt_of_lt_of_le h (Nat.pow_le_pow_right (by decide) hi))
theorem bits_ext {a b : Nat} (ha : a < 2 ^ 64) (hb : b < 2 ^ 64) (h : ∀ i, i < 64 → a.testBit i = b.testBit i) : a = b := by
  apply Nat.eq_of_testBit_eq
  intro i
  by_cases hi : i < 64
  · exact h i hi
  · rw [bit_high ha (by omega), bit_high hb (by omega)]
theorem add_or {n i : Nat} (h : n < 2 ^ 64) (hi : i < 64) (hb : n.testBit i = false) : IntKind.u64.wrap ((n : Int) + ((2 ^ i : Nat) : Int)) = ((n ||| 2 ^ i : Nat) : Int) := by
  have e : BitVec.ofNat 64 n + BitVec.ofNat 64 (2 ^ i) = BitVec.ofNat 64 n ||| BitVec.ofNat 64 (2 ^ i) := by
    apply BitVec.add_eq_or_of_and_eq_zero
    apply BitVec.eq_of_getLsbD_eq
    intro j hj
    simp only [BitVec.getLsbD_and, BitVec.getLsbD_ofNat, hj, decide_true, Bool.true_and, Nat.testBit_two_pow]
    by_cases hji : i = j
    · subst hji; simp [hb]
    · simp [hji]
  have e2 := congrArg BitVec.toNat e
  rw [BitVec.toNat_add, BitVec.toNat_or, BitVec.toNat_ofNat, BitVec.toNat_ofNat, Nat.mod_eq_of_lt h, Nat.mod_eq_of_lt (pow_lt hi)] at e2
  rw [IntKind.wrap_u64, ← e2]
  omega
theorem or_bit (n i j : Nat) : (n ||| 2 ^ i).testBit j = (n.testBit j || decide (i = j)) := by rw [Nat.testBit_or, Nat.testBit_two_pow]
theorem and_u {a b : Nat} (ha : a < 2 ^ 64) (hb : b < 2 ^ 64) : Go.bits .and .u64 (a : Int) (b : Int) = ((a &&& b : Nat) : Int) :=
  (bits_nat .u64 64 (by decide) (fun n h0 h1 => wu h0 (by simpa using h1)) a b ha hb).1
theorem or_u {a b : Nat} (ha : a < 2 ^ 64) (hb : b < 2 ^ 64) : Go.bits .or .u64 (a : Int) (b : Int) = ((a ||| b : Nat) : Int) :=
  (bits_nat .u64 64 (by decide) (fun n h0 h1 => wu h0 (by simpa using h1)) a b ha hb).2
/-- Whether all of the one set is in the other. -/
def Sub (a b : Nat) : Prop := ∀ i, i < 64 → a.testBit i = true → b.testBit i = true
instance (a b : Nat) : Decidable (Sub a b) := inferInstanceAs (Decidable (∀ i, i < 64 → a.testBit i = true → b.testBit i = true))
theorem andNot_u (a b : Nat) : (Go.bits .andNot .u64 (a : Int) (b : Int) == 0) = decide (Sub a b) := by
  have e : Go.bits .andNot .u64 (a : Int) (b : Int) = (((BitVec.ofNat 64 a &&& ~~~ BitVec.ofNat 64 b).toNat : Nat) : Int) := by
    simp only [Go.bits, BitVec.ofInt_natCast]
    exact wu_nat (BitVec.isLt _)
  rw [e, Bool.eq_iff_iff]
  simp only [beq_iff_eq, decide_eq_true_eq]
  constructor
  · intro h i hi hai
    have h0 : BitVec.ofNat 64 a &&& ~~~ BitVec.ofNat 64 b = 0#64 := BitVec.eq_of_toNat_eq (by simp only [BitVec.toNat_zero]; omega)
    have := congrArg (fun v : BitVec 64 => v.getLsbD i) h0
    simp only [BitVec.getLsbD_and, BitVec.getLsbD_ofNat, BitVec.getLsbD_not, hi, decide_true, Bool.true_and, hai] at this
    simpa using this
  · intro h
    have h0 : BitVec.ofNat 64 a &&& ~~~ BitVec.ofNat 64 b = 0#64 := by
      apply BitVec.eq_of_getLsbD_eq
      intro i hi
      have := h i hi
      simp only [BitVec.getLsbD_and, BitVec.getLsbD_ofNat, BitVec.getLsbD_not, hi, decide_true, Bool.true_and]
      rw [Nat.zero_testBit]
      cases hta : a.testBit i with
      | false => rfl
      | true => rw [this hta]; rfl
    rw [h0]
    rfl

/-! The functions. -/
theorem one_loop (i : Nat) (hi : i < 64) (d : Nat) : ∀ j : Nat, j + d = i → Ev (fun k => haulierref02_one.l0 k (i : Int) ((2 ^ j : Nat) : Int) (j : Int)) (((2 ^ i : Nat) : Int)) := by
  induction d with
  | zero =>
    intro j hj
    obtain rfl : j = i := by omega
    refine Ev.step (f := fun _ => some _) (fun k => ?_) (Ev.now _)
    simp only [haulierref02_one.l0]
    rw [if_neg (by omega)]
  | succ d ih =>
    intro j hj
    refine Ev.step (fun k => ?_) (ih (j + 1) (by omega))
    simp only [haulierref02_one.l0]
    rw [if_pos (by omega), nxt (by omega)]
    have := pow_lt (i := j + 1) (by omega)
    have e : ((2 ^ j : Nat) : Int) * 2 = ((2 ^ (j + 1) : Nat) : Int) := by rw [Nat.pow_succ]; omega
    rw [e, wu_nat this]
theorem one_ev {i : Nat} (hi : i < 64) : Ev (fun k => haulierref02_one.f k (i : Int)) (((2 ^ i : Nat) : Int)) := by
  have h1 : ¬ (i : Int) < 0 := by omega
  have h2 : decide ((i : Int) > 63) = false := by simp; omega
  simp only [haulierref02_one.f, if_neg h1, h2]
  refine Ev.step (fun k => ?_) (one_loop i hi i 0 (by omega))
  simp only [haulierref02_one.j0]
  rfl
theorem has_ev {n i : Nat} (hn : n < 2 ^ 64) (hi : i < 64) : Ev (fun k => haulierref02_Has.f k (n : Int) (i : Int)) (n.testBit i) := by
  simp only [haulierref02_Has.f]
  refine Ev.bind (one_ev hi) ?_
  have hp := pow_pos' i
  have h0 : ((2 ^ i : Nat) : Int) > 0 := by omega
  rw [if_pos h0, if_neg (by omega)]
  have hd : n / 2 ^ i < 2 ^ 64 := Nat.lt_of_le_of_lt (Nat.div_le_self _ _) hn
  rw [← Int.ofNat_tdiv, wu_nat hd]
  have e : (Int.tmod ((n / 2 ^ i : Nat) : Int) 2 == 1) = n.testBit i := by
    rw [Nat.testBit_eq_decide_div_mod_eq, Int.tmod_eq_emod_of_nonneg (Int.natCast_nonneg _), Bool.eq_iff_iff]
    generalize n / 2 ^ i = q
    simp only [beq_iff_eq, decide_eq_true_eq]
    omega
  rw [e]
  exact Ev.now _
theorem with_ev {n i : Nat} (hn : n < 2 ^ 64) (hi : i < 64) : Ev (fun k => haulierref02_With.f k (n : Int) (i : Int)) (((n ||| 2 ^ i : Nat) : Int)) := by
  simp only [haulierref02_With.f]
  refine Ev.bind (has_ev hn hi) ?_
  cases hb : n.testBit i with
  | true =>
    have e : n ||| 2 ^ i = n := by
      apply Nat.eq_of_testBit_eq
      intro j
      rw [or_bit]
      by_cases h : i = j
      · subst h; simp [hb]
      · simp [h]
    simp only [if_pos, e]
    exact Ev.now _
  | false =>
    simp only [Bool.false_eq_true, if_false]
    refine Ev.bind (one_ev hi) ?_
    rw [add_or hn hi hb]
    exact Ev.now _
theorem and_loop {a b : Nat} (ha : a < 2 ^ 64) (hb : b < 2 ^ 64) (d : Nat) : ∀ (i out : Nat), i + d = 64 → out < 2 ^ 64 → (∀ j, j < i → out.testBit j = (a &&& b).testBit j) → (∀ j, i ≤ j → out.testBit j = false) →
    Ev (fun k => haulierref02_And.l0 k (a : Int) (b : Int) (out : Int) (i : Int)) (((a &&& b : Nat) : Int)) := by
  induction d with
  | zero =>
    intro i out hi ho h1 h2
    have e : a &&& b = out := bits_ext (Nat.and_lt_two_pow _ hb) ho (fun j hj => (h1 j (by omega)).symm)
    rw [e]
    refine Ev.step (f := fun _ => some _) (fun k => ?_) (Ev.now _)
    simp only [haulierref02_And.l0]
    rw [if_neg (by omega)]
  | succ d ih =>
    intro i out hi ho h1 h2
    apply Ev.succ
    simp only [haulierref02_And.l0]
    have h64 : (i : Int) < 64 := by omega
    simp only [if_pos h64, nxt (show i < 100 by omega)]
    refine Ev.bind (has_ev ha (by omega)) ?_
    refine Ev.bind (has_ev hb (by omega)) ?_
    have stay : ((a &&& b).testBit i = false) → Ev (fun k => haulierref02_And.l0 k (a : Int) (b : Int) (out : Int) ((i + 1 : Nat) : Int)) (((a &&& b : Nat) : Int)) := by
      intro hf
      refine ih (i + 1) out (by omega) ho (fun j hj => ?_) (fun j hj => h2 j (by omega))
      by_cases e : j = i
      · subst e; rw [h2 j (by omega), hf]
      · exact h1 j (by omega)
    rw [Nat.testBit_and] at stay
    cases hta : a.testBit i with
    | false => rw [hta] at stay; simp only [Bool.false_eq_true, if_false]; exact stay rfl
    | true =>
      cases htb : b.testBit i with
      | false => rw [hta, htb] at stay; simp only [Bool.false_eq_true, if_false, if_true]; exact stay rfl
      | true =>
        simp only [if_true]
        refine Ev.bind (with_ev ho (by omega)) ?_
        refine ih (i + 1) _ (by omega) (Nat.or_lt_two_pow ho (pow_lt (by omega))) (fun j hj => ?_) (fun j hj => ?_)
        · rw [or_bit]
          by_cases e : i = j
          · subst e; simp [Nat.testBit_and, hta, htb]
          · simp [e]; rw [h1 j (by omega), Nat.testBit_and]
        · rw [or_bit, h2 j (by omega)]
          simp; omega
theorem and_ev {a b : Nat} (ha : a < 2 ^ 64) (hb : b < 2 ^ 64) : Ev (fun k => haulierref02_And.f k (a : Int) (b : Int)) (((a &&& b : Nat) : Int)) := by
  have := and_loop ha hb 64 0 0 (by omega) (by decide) (fun j hj => by omega) (fun j _ => by simp)
  simp only [haulierref02_And.f]
  exact this
/-- The stops of a set from i on, rising. -/
def from_ (n : Nat) : Nat → Nat → List Int
  | _, 0 => []
  | i, d + 1 => if n.testBit i then (i : Int) :: from_ n (i + 1) d else from_ n (i + 1) d
theorem mem_from (n : Nat) (d : Nat) : ∀ (i : Nat) (x : Int), x ∈ from_ n i d ↔ ∃ j : Nat, x = j ∧ i ≤ j ∧ j < i + d ∧ n.testBit j = true := by
  induction d with
  | zero => intro i x; simp [from_]; omega
  | succ d ih =>
    intro i x
    unfold from_
    cases h : n.testBit i with
    | true =>
      simp only [if_true, List.mem_cons, ih]
      constructor
      · rintro (rfl | ⟨j, rfl, h1, h2, h3⟩)
        · exact ⟨i, rfl, by omega, by omega, h⟩
        · exact ⟨j, rfl, by omega, by omega, h3⟩
      · rintro ⟨j, rfl, h1, h2, h3⟩
        by_cases e : j = i
        · exact .inl (by rw [e])
        · exact .inr ⟨j, rfl, by omega, by omega, h3⟩
    | false =>
      simp only [Bool.false_eq_true, if_false, ih]
      constructor
      · rintro ⟨j, rfl, h1, h2, h3⟩
        exact ⟨j, rfl, by omega, by omega, h3⟩
      · rintro ⟨j, rfl, h1, h2, h3⟩
        by_cases e : j = i
        · subst e; rw [h] at h3; exact absurd h3 (by simp)
        · exact ⟨j, rfl, by omega, by omega, h3⟩
theorem from_len (n : Nat) (d : Nat) : ∀ i, (from_ n i d).length ≤ d := by
  induction d with
  | zero => intro i; simp [from_]
  | succ d ih => intro i; unfold from_; have := ih (i + 1); split <;> simp <;> omega
theorem all_loop {n : Nat} (hn : n < 2 ^ 64) (d : Nat) : ∀ (i : Nat) (l : List Int), i + d = 64 → l.length ≤ i → Ev (fun k => haulierref02_All.l0 k (n : Int) l (i : Int)) (l ++ from_ n i d) := by
  induction d with
  | zero =>
    intro i l hi hl
    refine Ev.step (f := fun _ => some _) (fun k => ?_) (Ev.now _)
    simp only [haulierref02_All.l0, from_, List.append_nil]
    rw [if_neg (by omega)]
  | succ d ih =>
    intro i l hi hl
    apply Ev.succ
    simp only [haulierref02_All.l0]
    have h64 : (i : Int) < 64 := by omega
    simp only [if_pos h64, nxt (show i < 100 by omega)]
    refine Ev.bind (has_ev hn (by omega)) ?_
    unfold from_
    cases h : n.testBit i with
    | true =>
      have hll : l.length < 17592186044416 := by omega
      simp only [if_true, if_pos hll]
      have := ih (i + 1) (l ++ [(i : Int)]) (by omega) (by simp; omega)
      simpa using this
    | false =>
      simp only [Bool.false_eq_true, if_false]
      exact ih (i + 1) l (by omega) (by omega)
theorem all_ev {n : Nat} (hn : n < 2 ^ 64) : Ev (fun k => haulierref02_All.f k (n : Int)) (from_ n 0 64) := by
  have := all_loop hn 64 0 [] (by omega) (by simp)
  simp only [haulierref02_All.f]
  exact this
/-- A set with some more stops. -/
def ors (a : Nat) (l : List Int) : Nat := l.foldl (fun s x => s ||| 2 ^ x.toNat) a
theorem ors_lt (l : List Int) : ∀ {a : Nat}, a < 2 ^ 64 → (∀ x ∈ l, 0 ≤ x ∧ x < 64) → ors a l < 2 ^ 64 := by
  induction l with
  | nil => intro a h _; exact h
  | cons x l ih => intro a h hl; have := hl x (by simp); exact ih (Nat.or_lt_two_pow h (pow_lt (by omega))) (fun y hy => hl y (by simp [hy]))
theorem ors_bit (l : List Int) : ∀ (a j : Nat), (∀ x ∈ l, 0 ≤ x) → (ors a l).testBit j = (a.testBit j || decide ((j : Int) ∈ l)) := by
  induction l with
  | nil => intro a j _; simp [ors]
  | cons x l ih =>
    intro a j hl
    have := hl x (by simp)
    have e : ors a (x :: l) = ors (a ||| 2 ^ x.toNat) l := rfl
    rw [e, ih _ _ (fun y hy => hl y (by simp [hy])), or_bit, Bool.eq_iff_iff]
    simp only [Bool.or_eq_true, decide_eq_true_eq, List.mem_cons]
    constructor
    · rintro ((h | h) | h)
      · exact .inl h
      · exact .inr (.inl (by omega))
      · exact .inr (.inr h)
    · rintro (h | h | h)
      · exact .inl (.inl h)
      · exact .inl (.inr (by omega))
      · exact .inr h
theorem rd_nat (l : List Int) (i : Nat) (h : i < l.length) : rd l (i : Int) = l[i] := by
  unfold rd
  simp [h]
theorem or_loop (l : List Int) (hl : l.length ≤ 64) (hm : ∀ x ∈ l, 0 ≤ x ∧ x < 64) (d : Nat) : ∀ (i a : Nat), i + d = l.length → a < 2 ^ 64 → Ev (fun k => haulierref02_Or.l0 k (a : Int) l (i : Int)) ((ors a (l.drop i) : Nat) : Int) := by
  induction d with
  | zero =>
    intro i a hi ha
    refine Ev.step (f := fun _ => some (a : Int)) (fun k => ?_) ?_
    · simp only [haulierref02_Or.l0]; rw [if_neg (by omega)]
    · rw [List.drop_of_length_le (by omega)]; exact Ev.now _
  | succ d ih =>
    intro i a hi ha
    have hlt : i < l.length := by omega
    have hx := hm l[i] (List.getElem_mem _)
    rw [List.drop_eq_getElem_cons hlt]
    have e : ors a (l[i] :: l.drop (i + 1)) = ors (a ||| 2 ^ l[i].toNat) (l.drop (i + 1)) := rfl
    rw [e]
    apply Ev.succ
    simp only [haulierref02_Or.l0]
    have h1 : (i : Int) < (l.length : Int) := by omega
    have h2 : 0 ≤ (i : Int) := by omega
    simp only [if_pos h1, if_pos h2, nxt (show i < 100 by omega), rd_nat l i hlt]
    have ew : l[i] = ((l[i].toNat : Nat) : Int) := by omega
    refine Ev.bind (a := ((a ||| 2 ^ l[i].toNat : Nat) : Int)) ?_ ?_
    · have := with_ev (n := a) (i := l[i].toNat) ha (by omega)
      rw [← ew] at this
      exact this
    · exact ih (i + 1) _ (by omega) (Nat.or_lt_two_pow ha (pow_lt (by omega)))
theorem or_ev {a b : Nat} (ha : a < 2 ^ 64) (hb : b < 2 ^ 64) : Ev (fun k => haulierref02_Or.f k (a : Int) (b : Int)) (((a ||| b : Nat) : Int)) := by
  simp only [haulierref02_Or.f]
  refine Ev.bind (all_ev hb) ?_
  have hm : ∀ x ∈ from_ b 0 64, 0 ≤ x ∧ x < 64 := by
    intro x hx
    obtain ⟨j, rfl, h1, h2, h3⟩ := (mem_from b 64 0 x).1 hx
    omega
  have h := or_loop (from_ b 0 64) (from_len b 64 0) hm _ 0 a (by rw [Nat.zero_add]) ha
  have e : ors a ((from_ b 0 64).drop 0) = a ||| b := by
    rw [List.drop_zero]
    refine bits_ext (ors_lt _ ha hm) (Nat.or_lt_two_pow ha hb) (fun i hi => ?_)
    rw [ors_bit _ _ _ (fun x hx => (hm x hx).1), Nat.testBit_or, Bool.eq_iff_iff]
    simp only [Bool.or_eq_true, decide_eq_true_eq, mem_from]
    constructor
    · rintro (h | ⟨j, hj, _, _, h⟩)
      · exact .inl h
      · obtain rfl : i = j := by omega
        exact .inr h
    · rintro (h | h)
      · exact .inl h
      · exact .inr ⟨i, rfl, by omega, by omega, h⟩
  rw [e] at h
  exact h
theorem within_loop {a b : Nat} (ha : a < 2 ^ 64) (hb : b < 2 ^ 64) (d : Nat) : ∀ i : Nat, i + d = 64 → (∀ j, j < i → a.testBit j = true → b.testBit j = true) → Ev (fun k => haulierref02_Within.l0 k (a : Int) (b : Int) (i : Int)) (decide (Sub a b)) := by
  induction d with
  | zero =>
    intro i hi h
    refine Ev.step (f := fun _ => some true) (fun k => ?_) ?_
    · simp only [haulierref02_Within.l0]; rw [if_neg (by omega)]
    · rw [decide_eq_true (show Sub a b from fun j hj => h j (by omega))]; exact Ev.now _
  | succ d ih =>
    intro i hi h
    apply Ev.succ
    simp only [haulierref02_Within.l0]
    have h64 : (i : Int) < 64 := by omega
    simp only [if_pos h64, nxt (show i < 100 by omega)]
    refine Ev.bind (has_ev ha (by omega)) ?_
    refine Ev.bind (has_ev hb (by omega)) ?_
    have go : (a.testBit i = true → b.testBit i = true) → Ev (fun k => haulierref02_Within.l0 k (a : Int) (b : Int) ((i + 1 : Nat) : Int)) (decide (Sub a b)) := by
      intro hc
      refine ih (i + 1) (by omega) (fun j hj => ?_)
      by_cases e : j = i
      · subst e; exact hc
      · exact h j (by omega)
    cases hta : a.testBit i with
    | false => simp only [Bool.false_eq_true, if_false]; exact go (by simp [hta])
    | true =>
      cases htb : b.testBit i with
      | true => simp only [if_true]; exact go (by simp [htb])
      | false =>
        simp only [Bool.false_eq_true, if_false, if_true]
        rw [decide_eq_false (fun hs : Sub a b => by have := hs i (by omega) hta; rw [htb] at this; exact absurd this (by simp))]
        exact Ev.now _
theorem within_ev {a b : Nat} (ha : a < 2 ^ 64) (hb : b < 2 ^ 64) : Ev (fun k => haulierref02_Within.f k (a : Int) (b : Int)) (decide (Sub a b)) := by
  have := within_loop ha hb 64 0 (by omega) (fun j hj => by omega)
  simp only [haulierref02_Within.f]
  exact this
end Go.Proofs.Ytkcdpnigcbcalaa.Sets
