/- Whether one state covers another one, by the program and by the document: an order. No condition. -/
import Derived.Test.YtkcdpnigcbcalaaPBx5
import Derived.Test.YtkcdpnigcbcalaaPBx2
import Derived.Test.YtkcdpnigcbcalaaOpB
import Derived.Laws.BitsLemmas
import Derived.Laws.Bits64
namespace Go.Proofs.Ytkcdpnigcbcalaa.Sets
open Go.RowKit Go.Proofs.Ytkcdpnigcbcalaa.PB Go.Proofs.YtkcdpnigcbcalaaW.PrintWords Go.Proofs.YtkcdpnigcbcalaaW.PrintLast

theorem w64 {x : Int} (h : -9223372036854775808 ≤ x) (h' : x ≤ 9223372036854775807) : wrap64 x = x := by unfold wrap64; omega
theorem wu {x : Int} (h : 0 ≤ x) (h' : x < 18446744073709551616) : IntKind.u64.wrap x = x := by rw [IntKind.wrap_u64]; omega
theorem wu_nat {n : Nat} (h : n < 2 ^ 64) : IntKind.u64.wrap (n : Int) = n := wu (by omega) (by omega)
theorem wfi {x : Int} (h : (Lit.int .i64 x).wf = true) : -9223372036854775808 ≤ x ∧ x ≤ 9223372036854775807 := by
  simp [Lit.wf, IntKind.min, IntKind.max, IntKind.bits, IntKind.signed] at h
  omega
theorem wfu {x : Int} (h : (Lit.int .u64 x).wf = true) : 0 ≤ x ∧ x < 18446744073709551616 := by
  simp [Lit.wf, IntKind.min, IntKind.max, IntKind.bits, IntKind.signed] at h
  omega
theorem wfu_nat {x : Int} (h : (Lit.int .u64 x).wf = true) : ∃ n : Nat, x = n ∧ n < 2 ^ 64 := by
  have := wfu h
  exact ⟨x.toNat, by omega, by omega⟩
theorem nxt {i : Nat} (h : i < 100) : wrap64 ((i : Int) + 1) = ((i + 1 : Nat) : Int) := by rw [w64 (by omega) (by omega)]; omega

theorem Ev.succ {α : Type} {g : Nat → Option α} {r : α} (h : Ev (fun k => g (k + 1)) r) : Ev g r := Ev.step (fun _ => rfl) h

/-! Bits. -/
theorem pow_pos' (i : Nat) : 0 < 2 ^ i := Nat.two_pow_pos i
theorem pow_lt {i : Nat} (h : i < 64) : 2 ^ i < 2 ^ 64 := Nat.pow_lt_pow_right (by decide) h
theorem bit_high {n i : Nat} (h : n < 2 ^ 64) (hi : 64 ≤ i) : n.testBit i = false := Nat.testBit_lt_two_pow (Nat.lt_of_lt_of_le h (Nat.pow_le_pow_right (by decide) hi))
theorem bits_ext {a b : Nat} (ha : a < 2 ^ 64) (hb : b < 2 ^ 64) (h : ∀ i, i < 64 → a.testBit i = b.testBit i) : a = b := by
  apply Nat.eq_of_testBit_eq
  intro i
  by_cases hi : i < 64
  · exact h i hi
  · rw [bit_high ha (by omega), bit_high hb (by omega)]
theorem add_or {n i : Nat} (h : n < 2 ^ 64) (hi : i < 64) (hb : n.testBit i = false) : IntKind.u64.wrap ((n : Int) + ((2 ^ i : Nat) : Int)) = ((n ||| 2 ^ i : Nat) : Int) := by
  have e : BitVec.ofNat 64 n + BitVec.ofNat 64 (2 ^ i) = BitVec.ofNat 64 n ||| BitVec.ofNat 64 (2 ^ i) := by
    apply BitVec.add_eq_or_of_and_eq_zero
    apply BitVec.eq_of_getLsbD_eq
    intro j hj
    simp only [BitVec.getLsbD_and, BitVec.getLsbD_ofNat, hj, decide_true, Bool.true_and, Nat.testBit_two_pow]
    by_cases hji : i = j
    · subst hji; simp [hb]
    · simp [hji]
  have e2 := congrArg BitVec.toNat e
  rw [BitVec.toNat_add, BitVec.toNat_or, BitVec.toNat_ofNat, BitVec.toNat_ofNat, Nat.mod_eq_of_lt h, Nat.mod_eq_of_lt (pow_lt hi)] at e2
  rw [IntKind.wrap_u64, ← e2]
  omega
theorem or_bit (n i j : Nat) : (n ||| 2 ^ i).testBit j = (n.testBit j || decide (i = j)) := by rw [Nat.testBit_or, Nat.testBit_two_pow]
theorem and_u {a b : Nat} (ha : a < 2 ^ 64) (hb : b < 2 ^ 64) : Go.bits .and .u64 (a : Int) (b : Int) = ((a &&& b : Nat) : Int) :=
  (bits_nat .u64 64 (by decide) (fun n h0 h1 => wu h0 (by simpa using h1)) a b ha hb).1
theorem or_u {a b : Nat} (ha : a < 2 ^ 64) (hb : b < 2 ^ 64) : Go.bits .or .u64 (a : Int) (b : Int) = ((a ||| b : Nat) : Int) :=
  (bits_nat .u64 64 (by decide) (fun n h0 h1 => wu h0 (by simpa using h1)) a b ha hb).2
/-- Whether all of the one set is in the other. -/
def Sub (a b : Nat) : Prop := ∀ i, i < 64 → a.testBit i = true → b.testBit i = true
instance (a b : Nat) : Decidable (Sub a b) := inferInstanceAs (Decidable (∀ i, i < 64 → a.testBit i = true → b.testBit i = true))
theorem andNot_u (a b : Nat) : (Go.bits .andNot .u64 (a : Int) (b : Int) == 0) = decide (Sub a b) := by
  have e : Go.bits .andNot .u64 (a : Int) (b : Int) = (((BitVec.ofNat 64 a &&& ~~~ BitVec.ofNat 64 b).toNat : Nat) : Int) := by
    simp only [Go.bits, BitVec.ofInt_natCast]
    exact wu_nat (BitVec.isLt _)
  rw [e, Bool.eq_iff_iff]
  simp only [beq_iff_eq, decide_eq_true_eq]
  constructor
  · intro h i hi hai
    have h0 : BitVec.ofNat 64 a &&& ~~~ BitVec.ofNat 64 b = 0#64 := BitVec.eq_of_toNat_eq (by simp only [BitVec.toNat_zero]; omega)
    have := congrArg (fun v : BitVec 64 => v.getLsbD i) h0
    simp only [BitVec.getLsbD_and, BitVec.getLsbD_ofNat, BitVec.getLsbD_not, hi, decide_true, Bool.true_and, hai] at this
    simpa using this
  · intro h
    have h0 : BitVec.ofNat 64 a &&& ~~~ BitVec.ofNat 64 b = 0#64 := by
      apply BitVec.eq_of_getLsbD_eq
      intro i hi
      have := h i hi
      simp only [BitVec.getLsbD_and, BitVec.getLsbD_ofNat, BitVec.getLsbD_not, hi, decide_true, Bool.true_and]
      rw [Nat.zero_testBit]
      cases hta : a.testBit i with
      | false => rfl
      | true => rw [this hta]; rfl
    rw [h0]
    rfl

/-! The functions. -/
theorem one_loop (i : Nat) (hi : i < 64) (d : Nat) : ∀ j : Nat, j + d = i → Ev (fun k => haulierref02_one.l0 k (i : Int) ((2 ^ j : Nat) : Int) (j : Int)) (((2 ^ i : Nat) : Int)) := by
  induction d with
  | zero =>
    intro j hj
    obtain rfl : j = i := by omega
    refine Ev.step (f := fun _ => some _) (fun k => ?_) (Ev.now _)
    simp only [haulierref02_one.l0]
    rw [if_neg (by omega)]
  | succ d ih =>
    intro j hj
    refine Ev.step (fun k => ?_) (ih (j + 1) (by omega))
    simp only [haulierref02_one.l0]
    rw [if_pos (by omega), nxt (by omega)]
    have := pow_lt (i := j + 1) (by omega)
    have e : ((2 ^ j : Nat) : Int) * 2 = ((2 ^ (j + 1) : Nat) : Int) := by rw [Nat.pow_succ]; omega
    rw [e, wu_nat this]
theorem one_ev {i : Nat} (hi : i < 64) : Ev (fun k => haulierref02_one.f k (i : Int)) (((2 ^ i : Nat) : Int)) := by
  have h1 : ¬ (i : Int) < 0 := by omega
  have h2 : decide ((i : Int) > 63) = false := by simp; omega
  simp only [haulierref02_one.f, if_neg h1, h2]
  refine Ev.step (fun k => ?_) (one_loop i hi i 0 (by omega))
  simp only [haulierref02_one.j0]
  rfl
theorem has_ev {n i : Nat} (hn : n < 2 ^ 64) (hi : i < 64) : Ev (fun k => haulierref02_Has.f k (n : Int) (i : Int)) (n.testBit i) := by
  simp only [haulierref02_Has.f]
  refine Ev.bind (one_ev hi) ?_
  have hp := pow_pos' i
  have h0 : ((2 ^ i : Nat) : Int) > 0 := by omega
  rw [if_pos h0, if_neg (by omega)]
  have hd : n / 2 ^ i < 2 ^ 64 := Nat.lt_of_le_of_lt (Nat.div_le_self _ _) hn
  rw [← Int.ofNat_tdiv, wu_nat hd]
  have e : (Int.tmod ((n / 2 ^ i : Nat) : Int) 2 == 1) = n.testBit i := by
    rw [Nat.testBit_eq_decide_div_mod_eq, Int.tmod_eq_emod_of_nonneg (Int.natCast_nonneg _), Bool.eq_iff_iff]
    generalize n / 2 ^ i = q
    simp only [beq_iff_eq, decide_eq_true_eq]
    omega
  rw [e]
  exact Ev.now _
/-- The stops of a set from i on, rising. -/
def from_ (n : Nat) : Nat → Nat → List Int
  | _, 0 => []
  | i, d + 1 => if n.testBit i then (i : Int) :: from_ n (i + 1) d else from_ n (i + 1) d
/-- A set with some more stops. -/
def ors (a : Nat) (l : List Int) : Nat := l.foldl (fun s x => s ||| 2 ^ x.toNat) a
theorem within_loop {a b : Nat} (ha : a < 2 ^ 64) (hb : b < 2 ^ 64) (d : Nat) : ∀ i : Nat, i + d = 64 → (∀ j, j < i → a.testBit j = true → b.testBit j = true) → Ev (fun k => haulierref02_Within.l0 k (a : Int) (b : Int) (i : Int)) (decide (Sub a b)) := by
  induction d with
  | zero =>
    intro i hi h
    refine Ev.step (f := fun _ => some true) (fun k => ?_) ?_
    · simp only [haulierref02_Within.l0]; rw [if_neg (by omega)]
    · rw [decide_eq_true (show Sub a b from fun j hj => h j (by omega))]; exact Ev.now _
  | succ d ih =>
    intro i hi h
    apply Ev.succ
    simp only [haulierref02_Within.l0]
    have h64 : (i : Int) < 64 := by omega
    simp only [if_pos h64, nxt (show i < 100 by omega)]
    refine Ev.bind (has_ev ha (by omega)) ?_
    refine Ev.bind (has_ev hb (by omega)) ?_
    have go : (a.testBit i = true → b.testBit i = true) → Ev (fun k => haulierref02_Within.l0 k (a : Int) (b : Int) ((i + 1 : Nat) : Int)) (decide (Sub a b)) := by
      intro hc
      refine ih (i + 1) (by omega) (fun j hj => ?_)
      by_cases e : j = i
      · subst e; exact hc
      · exact h j (by omega)
    cases hta : a.testBit i with
    | false => simp only [Bool.false_eq_true, if_false]; exact go (by simp [hta])
    | true =>
      cases htb : b.testBit i with
      | true => simp only [if_true]; exact go (by simp [htb])
      | false =>
        simp only [Bool.false_eq_true, if_false, if_true]
        rw [decide_eq_false (fun hs : Sub a b => by have := hs i (by omega) hta; rw [htb] at this; exact absurd this (by simp))]
        exact Ev.now _
theorem within_ev {a b : Nat} (ha : a < 2 ^ 64) (hb : b < 2 ^ 64) : Ev (fun k => haulierref02_Within.f k (a : Int) (b : Int)) (decide (Sub a b)) := by
  have := within_loop ha hb 64 0 (by omega) (fun j hj => by omega)
  simp only [haulierref02_Within.f]
  exact this
abbrev St := S24
def U (x : Int) : Prop := 0 ≤ x ∧ x < 18446744073709551616
def OK (x : St) : Prop := U x.f5 ∧ U x.f6 ∧ U x.f7
def SubI (x y : Int) : Prop := Sub x.toNat y.toNat
instance (x y : Int) : Decidable (SubI x y) := inferInstanceAs (Decidable (Sub _ _))
def Cov (a b : St) : Prop := a.f0 = b.f0 ∧ a.f1 ≤ b.f1 ∧ a.f2 ≤ b.f2 ∧ a.f3 ≤ b.f3 ∧ a.f4 ≤ b.f4 ∧ SubI a.f5 b.f5 ∧ SubI a.f7 b.f7 ∧ SubI b.f6 a.f6
instance (a b : St) : Decidable (Cov a b) := inferInstanceAs (Decidable (_ ∧ _))
theorem ok_wf {x : St} (h : wf_t24 x) : OK x := ⟨wfu h.2.2.2.2.2.1, wfu h.2.2.2.2.2.2.1, wfu h.2.2.2.2.2.2.2⟩
theorem U.nat {x : Int} (h : U x) : ∃ n : Nat, x = n ∧ n < 2 ^ 64 := ⟨x.toNat, by have := h.1; omega, by have := h.2; omega⟩

theorem sub_refl (x : Int) : SubI x x := fun _ _ h => h
theorem sub_trans {x y z : Int} (h : SubI x y) (h' : SubI y z) : SubI x z := fun i hi hx => h' i hi (h i hi hx)
theorem sub_anti {x y : Int} (hx : U x) (hy : U y) (h : SubI x y) (h' : SubI y x) : x = y := by
  obtain ⟨a, rfl, ha⟩ := hx.nat
  obtain ⟨b, rfl, hb⟩ := hy.nat
  have e : a = b := bits_ext ha hb (fun i hi => by rw [Bool.eq_iff_iff]; exact ⟨h i hi, h' i hi⟩)
  rw [e]
theorem cov_refl (a : St) : Cov a a := ⟨rfl, by omega, by omega, by omega, by omega, sub_refl _, sub_refl _, sub_refl _⟩
theorem cov_trans {a b c : St} (h : Cov a b) (h' : Cov b c) : Cov a c := by
  obtain ⟨h0, h1, h2, h3, h4, h5, h6, h7⟩ := h
  obtain ⟨k0, k1, k2, k3, k4, k5, k6, k7⟩ := h'
  exact ⟨h0.trans k0, by omega, by omega, by omega, by omega, sub_trans h5 k5, sub_trans h6 k6, sub_trans k7 h7⟩
theorem cov_anti {a b : St} (ha : OK a) (hb : OK b) (h : Cov a b) (h' : Cov b a) : a = b := by
  obtain ⟨h0, h1, h2, h3, h4, h5, h6, h7⟩ := h
  obtain ⟨k0, k1, k2, k3, k4, k5, k6, k7⟩ := h'
  have e5 := sub_anti ha.1 hb.1 h5 k5
  have e6 := sub_anti ha.2.1 hb.2.1 k7 h7
  have e7 := sub_anti ha.2.2 hb.2.2 h6 k6
  cases a
  cases b
  simp only at *
  simp only [S24.mk.injEq]
  refine ⟨h0, by omega, by omega, by omega, by omega, e5, e6, e7⟩
theorem within_eq {x y : Int} (hx : U x) (hy : U y) : set_Within.f x y = some (decide (SubI x y)) := by
  obtain ⟨a, rfl, ha⟩ := hx.nat
  obtain ⟨b, rfl, hb⟩ := hy.nat
  unfold set_Within.f
  rw [andNot_u a b]
  rfl
theorem covers_eq {a b : St} (ha : OK a) (hb : OK b) : relax_Covers.f a.f0 a.f1 a.f2 a.f3 a.f4 a.f5 a.f6 a.f7 b.f0 b.f1 b.f2 b.f3 b.f4 b.f5 b.f6 b.f7 = some (decide (Cov a b)) := by
  unfold relax_Covers.f Cov
  rw [within_eq ha.1 hb.1, within_eq ha.2.2 hb.2.2, within_eq hb.2.1 ha.2.1]
  simp only [Option.bind_some, decide_eq_true_eq]
  by_cases h0 : a.f0 = b.f0 <;> by_cases h1 : a.f1 ≤ b.f1 <;> by_cases h2 : a.f2 ≤ b.f2 <;> by_cases h3 : a.f3 ≤ b.f3 <;> by_cases h5 : SubI a.f5 b.f5 <;> by_cases h6 : SubI a.f7 b.f7 <;> by_cases h7 : SubI b.f6 a.f6 <;> simp [h0, h1, h2, h3, h5, h6, h7]
theorem rwithin_ev {x y : Int} (hx : U x) (hy : U y) : Ev (fun k => haulierref02_Within.f k x y) (decide (SubI x y)) := by
  obtain ⟨a, rfl, ha⟩ := hx.nat
  obtain ⟨b, rfl, hb⟩ := hy.nat
  exact within_ev ha hb
theorem rcovers_ev {a b : St} (ha : OK a) (hb : OK b) : Ev (fun k => haulierref11_Covers.f k a.f0 a.f1 a.f2 a.f3 a.f4 a.f5 a.f6 a.f7 b.f0 b.f1 b.f2 b.f3 b.f4 b.f5 b.f6 b.f7) (decide (Cov a b)) := by
  simp only [haulierref11_Covers.f]
  refine Ev.bind (rwithin_ev ha.1 hb.1) (Ev.bind (rwithin_ev ha.2.2 hb.2.2) (Ev.bind (rwithin_ev hb.2.1 ha.2.1) ?_))
  refine Ev.congr (f := fun _ => some (decide (Cov a b))) (fun k => ?_) (Ev.now _)
  unfold Cov
  by_cases h0 : a.f0 = b.f0 <;> by_cases h1 : a.f1 ≤ b.f1 <;> by_cases h2 : a.f2 ≤ b.f2 <;> by_cases h3 : a.f3 ≤ b.f3 <;> by_cases h4 : a.f4 ≤ b.f4 <;> by_cases h5 : SubI a.f5 b.f5 <;> by_cases h6 : SubI a.f7 b.f7 <;> simp [h0, h1, h2, h3, h4, h5, h6]

end Go.Proofs.Ytkcdpnigcbcalaa.Sets
