/- Sets of stops as bits, by the program's own functions; whether one state covers another one. No condition. -/
import Derived.Test.YtjiammiihamkiaaPCx2
import Derived.Test.YtjiammiihamkiaaPCx3
import Derived.Test.YtjiammiihamkiaaPCx5
import Derived.Laws.BitsLemmas
import Derived.Laws.Bits64
namespace Go.Proofs.Ytjiammiihamkiaa.Cov
open Go.RowKit Go.Proofs.Ytjiammiihamkiaa.PC Go.Proofs.YtjiammiihamkiaaW.PrintWords Go.Proofs.YtjiammiihamkiaaW.PrintLast Go.Proofs.YtjiammiihamkiaaW.PrintMore
set_option linter.unusedVariables false
theorem w64 {x : Int} (h : -9223372036854775808 ≤ x) (h' : x ≤ 9223372036854775807) : wrap64 x = x := by unfold wrap64; omega
theorem wu {x : Int} (h : 0 ≤ x) (h' : x < 18446744073709551616) : IntKind.u64.wrap x = x := by rw [IntKind.wrap_u64]; omega
theorem wu_nat {n : Nat} (h : n < 2 ^ 64) : IntKind.u64.wrap (n : Int) = n := wu (by omega) (by omega)
theorem wfu {x : Int} (h : (Lit.int .u64 x).wf = true) : 0 ≤ x ∧ x < 18446744073709551616 := by
  simp [Lit.wf, IntKind.min, IntKind.max, IntKind.bits, IntKind.signed] at h
  omega
theorem bit_high {n i : Nat} (h : n < 2 ^ 64) (hi : 64 ≤ i) : n.testBit i = false := Nat.testBit_lt_two_pow (Nat.lt_of_lt_of_le h (Nat.pow_le_pow_right (by decide) hi))
theorem and_u {a b : Nat} (ha : a < 2 ^ 64) (hb : b < 2 ^ 64) : Go.bits .and .u64 (a : Int) (b : Int) = ((a &&& b : Nat) : Int) :=
  (bits_nat .u64 64 (by decide) (fun n h0 h1 => wu h0 (by simpa using h1)) a b ha hb).1
theorem or_u {a b : Nat} (ha : a < 2 ^ 64) (hb : b < 2 ^ 64) : Go.bits .or .u64 (a : Int) (b : Int) = ((a ||| b : Nat) : Int) :=
  (bits_nat .u64 64 (by decide) (fun n h0 h1 => wu h0 (by simpa using h1)) a b ha hb).2
/-- A set: a number of 64 bits. -/
def U (x : Int) : Prop := 0 ≤ x ∧ x < 18446744073709551616
theorem U.nat {x : Int} (h : U x) : ∃ n : Nat, x = n ∧ n < 2 ^ 64 := ⟨x.toNat, by have := h.1; omega, by have := h.2; omega⟩
/-- Is a stop in it? -/
def tb (x : Int) (i : Nat) : Bool := x.toNat.testBit i
theorem tb_nat (n i : Nat) : tb (n : Int) i = n.testBit i := rfl
theorem and_U {x y : Int} (hx : U x) (hy : U y) : U (Go.bits .and .u64 x y) ∧ ∀ i, tb (Go.bits .and .u64 x y) i = (tb x i && tb y i) := by
  obtain ⟨a, rfl, ha⟩ := hx.nat
  obtain ⟨b, rfl, hb⟩ := hy.nat
  rw [and_u ha hb]
  refine ⟨⟨by omega, ?_⟩, fun i => ?_⟩
  · have : a &&& b < 2 ^ 64 := Nat.and_lt_two_pow _ hb
    omega
  · rw [tb_nat, tb_nat, tb_nat, Nat.testBit_and]
theorem or_U {x y : Int} (hx : U x) (hy : U y) : U (Go.bits .or .u64 x y) ∧ ∀ i, tb (Go.bits .or .u64 x y) i = (tb x i || tb y i) := by
  obtain ⟨a, rfl, ha⟩ := hx.nat
  obtain ⟨b, rfl, hb⟩ := hy.nat
  rw [or_u ha hb]
  refine ⟨⟨by omega, ?_⟩, fun i => ?_⟩
  · have : a ||| b < 2 ^ 64 := Nat.or_lt_two_pow ha hb
    omega
  · rw [tb_nat, tb_nat, tb_nat, Nat.testBit_or]
theorem not_U {x y : Int} (hx : U x) (hy : U y) : U (Go.bits .andNot .u64 x y) ∧ ∀ i, i < 64 → tb (Go.bits .andNot .u64 x y) i = (tb x i && !tb y i) := by
  obtain ⟨a, rfl, ha⟩ := hx.nat
  obtain ⟨b, rfl, hb⟩ := hy.nat
  have e : Go.bits .andNot .u64 (a : Int) (b : Int) = (((BitVec.ofNat 64 a &&& ~~~ BitVec.ofNat 64 b).toNat : Nat) : Int) := by
    simp only [Go.bits, BitVec.ofInt_natCast]
    exact wu_nat (BitVec.isLt _)
  rw [e]
  have hl := (BitVec.ofNat 64 a &&& ~~~ BitVec.ofNat 64 b).isLt
  refine ⟨⟨by omega, by omega⟩, fun i hi => ?_⟩
  rw [tb_nat, tb_nat, tb_nat, BitVec.testBit_toNat, BitVec.getLsbD_and, BitVec.getLsbD_not, BitVec.getLsbD_ofNat, BitVec.getLsbD_ofNat]
  simp only [hi, decide_true, Bool.true_and]
theorem zero_tb {x : Int} (hx : U x) (h : ∀ i, i < 64 → tb x i = false) : x = 0 := by
  obtain ⟨a, rfl, ha⟩ := hx.nat
  have : a = 0 := Nat.eq_of_testBit_eq (fun i => by
    rw [Nat.zero_testBit]
    by_cases hi : i < 64
    · exact h i hi
    · exact bit_high ha (by omega))
  omega
theorem tb_zero (i : Nat) : tb 0 i = false := by show Nat.testBit 0 i = false; exact Nat.zero_testBit i
/-- All of the one are in the other. -/
def SubI (x y : Int) : Prop := ∀ i, i < 64 → tb x i = true → tb y i = true
instance (x y : Int) : Decidable (SubI x y) := inferInstanceAs (Decidable (∀ i, i < 64 → tb x i = true → tb y i = true))
theorem sub_trans {x y z : Int} (h : SubI x y) (h' : SubI y z) : SubI x z := fun i hi hx => h' i hi (h i hi hx)
theorem within_eq {x y : Int} (hx : U x) (hy : U y) : set_Within.f x y = some (decide (SubI x y)) := by
  unfold set_Within.f
  congr 1
  rw [Bool.eq_iff_iff]
  simp only [beq_iff_eq, decide_eq_true_eq]
  have h := not_U hx hy
  constructor
  · intro h0 i hi hxi
    have := h.2 i hi
    rw [h0, tb_zero, hxi, Bool.true_and] at this
    simpa using this.symm
  · intro hs
    refine zero_tb h.1 (fun i hi => ?_)
    rw [h.2 i hi]
    cases hxi : tb x i with
    | false => rfl
    | true => rw [hs i hi hxi]; rfl
/-- The set of one stop. -/
def bitI (i : Int) : Int := if i < 0 then 0 else if i > 63 then 0 else shl .u64 1 i
theorem bit_U (i : Int) : U (bitI i) := by
  unfold bitI U
  split
  · omega
  · split
    · omega
    · unfold shl; rw [IntKind.wrap_u64]; omega
theorem bit_eq (i : Int) : set_bit.f i = some (bitI i) := by
  unfold set_bit.f bitI
  split
  · rfl
  · split
    · rfl
    · rw [if_pos (by omega)]
def hasB (x j : Int) : Bool := Go.bits .and .u64 x (bitI j) != 0
def withS (x j : Int) : Int := Go.bits .or .u64 x (bitI j)
def withoutS (x j : Int) : Int := Go.bits .andNot .u64 x (bitI j)
theorem has_eq (x j : Int) : set_Has.f x j = some (hasB x j) := by unfold set_Has.f hasB; rw [bit_eq, Option.bind_some]
theorem with_eq (x j : Int) : set_With.f x j = some (withS x j) := by unfold set_With.f withS; rw [bit_eq, Option.bind_some]
theorem without_eq (x j : Int) : set_Without.f x j = some (withoutS x j) := by unfold set_Without.f withoutS; rw [bit_eq, Option.bind_some]
theorem with_U {x : Int} (h : U x) (j : Int) : U (withS x j) := (or_U h (bit_U j)).1
theorem without_U {x : Int} (h : U x) (j : Int) : U (withoutS x j) := (not_U h (bit_U j)).1
theorem has_mono {x y : Int} (hx : U x) (hy : U y) (h : SubI x y) (j : Int) (hh : hasB x j = true) : hasB y j = true := by
  unfold hasB at *
  rw [bne_iff_ne] at *
  intro h0
  refine hh (zero_tb (and_U hx (bit_U j)).1 (fun i hi => ?_))
  have h1 := (and_U hy (bit_U j)).2 i
  rw [h0, tb_zero] at h1
  rw [(and_U hx (bit_U j)).2 i]
  cases hxi : tb x i with
  | false => rfl
  | true => rw [h i hi hxi] at h1; rw [Bool.true_and] at h1 ⊢; exact h1.symm
theorem with_mono {x y : Int} (hx : U x) (hy : U y) (h : SubI x y) (j : Int) : SubI (withS x j) (withS y j) := by
  intro i hi
  unfold withS
  rw [(or_U hx (bit_U j)).2, (or_U hy (bit_U j)).2, Bool.or_eq_true, Bool.or_eq_true]
  exact fun h' => h'.elim (fun a => .inl (h i hi a)) .inr
theorem without_mono {x y : Int} (hx : U x) (hy : U y) (h : SubI x y) (j : Int) : SubI (withoutS x j) (withoutS y j) := by
  intro i hi
  unfold withoutS
  rw [(not_U hx (bit_U j)).2 i hi, (not_U hy (bit_U j)).2 i hi, Bool.and_eq_true, Bool.and_eq_true]
  exact fun h' => ⟨h i hi h'.1, h'.2⟩
theorem sub_zero {x : Int} (hx : U x) (h : SubI x 0) : x = 0 := zero_tb hx (fun i hi => by
  cases hxi : tb x i with
  | false => rfl
  | true => have := h i hi hxi; rw [tb_zero] at this; exact absurd this (by decide))
/-- Those from 1 up to a number. -/
def uptoL : Nat → Int → Int → Int
  | 0, s, _ => s
  | d + 1, s, i => uptoL d (Go.bits .or .u64 s (bitI (i + 1))) (i + 1)
def uptoV (n : Int) : Int := uptoL (mn (mx n 0) 63).toNat 0 0
theorem uptoL_U (d : Nat) : ∀ s i, U s → U (uptoL d s i) := by
  induction d with
  | zero => intro s i h; exact h
  | succ d ih => intro s i h; exact ih _ _ (or_U h (bit_U _)).1
theorem upto_U (n : Int) : U (uptoV n) := uptoL_U _ _ _ ⟨by omega, by omega⟩
theorem upto_ev (n : Int) : Ev (fun k => set_Upto.f k n) (uptoV n) := by
  have hb : 0 ≤ mn (mx n 0) 63 ∧ mn (mx n 0) 63 ≤ 63 := by unfold mn mx; split <;> split <;> omega
  have h : ∀ (d : Nat) (s i : Int), 0 ≤ i → i + d = mn (mx n 0) 63 → Ev (fun k => set_Upto.l0 k s (mn (mx n 0) 63) i) (uptoL d s i) := by
    intro d
    induction d with
    | zero =>
      intro s i h0 hi
      refine Ev.step (f := fun _ => some s) (fun k => ?_) (Ev.now _)
      simp only [set_Upto.l0]; rw [if_neg (by omega)]
    | succ d ih =>
      intro s i h0 hi
      have e : wrap64 (i + 1) = i + 1 := w64 (by omega) (by omega)
      refine Ev.step (f := fun k => set_Upto.l0 k (Go.bits .or .u64 s (bitI (i + 1))) (mn (mx n 0) 63) (i + 1)) (fun k => ?_) (ih _ _ (by omega) (by omega))
      simp only [set_Upto.l0]; rw [if_pos (by omega), e, bit_eq, Option.bind_some]
  exact h (mn (mx n 0) 63).toNat 0 0 (by omega) (by omega)
abbrev St := S40
def OK (x : St) : Prop := U x.f5 ∧ U x.f6 ∧ U x.f7
def Cov (a b : St) : Prop := a.f0 = b.f0 ∧ a.f1 ≤ b.f1 ∧ a.f2 ≤ b.f2 ∧ a.f3 ≤ b.f3 ∧ a.f4 ≤ b.f4 ∧ SubI a.f5 b.f5 ∧ SubI a.f7 b.f7 ∧ SubI b.f6 a.f6
instance (a b : St) : Decidable (Cov a b) := inferInstanceAs (Decidable (_ ∧ _))
theorem covers_eq {a b : St} (ha : OK a) (hb : OK b) : relax_Covers.f a.f0 a.f1 a.f2 a.f3 a.f4 a.f5 a.f6 a.f7 b.f0 b.f1 b.f2 b.f3 b.f4 b.f5 b.f6 b.f7 = some (decide (Cov a b)) := by
  unfold relax_Covers.f Cov
  rw [within_eq ha.1 hb.1, within_eq ha.2.2 hb.2.2, within_eq hb.2.1 ha.2.1]
  simp only [Option.bind_some, decide_eq_true_eq]
  by_cases h0 : a.f0 = b.f0 <;> by_cases h1 : a.f1 ≤ b.f1 <;> by_cases h2 : a.f2 ≤ b.f2 <;> by_cases h3 : a.f3 ≤ b.f3 <;> by_cases h5 : SubI a.f5 b.f5 <;> by_cases h6 : SubI a.f7 b.f7 <;> by_cases h7 : SubI b.f6 a.f6 <;> simp [h0, h1, h2, h3, h5, h6, h7]
end Go.Proofs.Ytjiammiihamkiaa.Cov
