/- set.Len counts a set's stops. -/
import Derived.Test.YtgnhokepcdopgaaDoorSetB
namespace Go.Proofs.YtgnhokepcdopgaaDoor.Sets
open Go.RowKit Go.Proofs.YtgnhokepcdopgaaDoor.PA Go.Proofs.YtgnhokepcdopgaaDoorW.PrintWords Go.Proofs.YtgnhokepcdopgaaDoorW.PrintLast

/-- How many of the lowest d bits are set. -/
def cnt : Nat → Nat → Nat
  | 0, _ => 0
  | d + 1, x => x % 2 + cnt d (x / 2)
def val : List Nat → Nat
  | [] => 0
  | y :: l => y + 256 * val l
def msk (c : Nat) : Nat → Nat
  | 0 => 0
  | n + 1 => c + 256 * msk c n
theorem and_cons {a b c d : Nat} (ha : a < 256) (hc : c < 256) : (a + 256 * b) &&& (c + 256 * d) = (a &&& c) + 256 * (b &&& d) := by
  have h1 : ((a + 256 * b) &&& (c + 256 * d)) % 2 ^ 8 = (a + 256 * b) % 2 ^ 8 &&& (c + 256 * d) % 2 ^ 8 := Nat.and_mod_two_pow
  have h2 : ((a + 256 * b) &&& (c + 256 * d)) / 2 ^ 8 = (a + 256 * b) / 2 ^ 8 &&& (c + 256 * d) / 2 ^ 8 := Nat.and_div_two_pow
  have e1 : (a + 256 * b) % 2 ^ 8 = a := by omega
  have e2 : (c + 256 * d) % 2 ^ 8 = c := by omega
  have e3 : (a + 256 * b) / 2 ^ 8 = b := by omega
  have e4 : (c + 256 * d) / 2 ^ 8 = d := by omega
  rw [e1, e2] at h1
  rw [e3, e4] at h2
  omega
theorem and_val {c : Nat} (hc : c < 256) : ∀ (l : List Nat), (∀ y ∈ l, y < 256) → val l &&& msk c l.length = val (l.map fun y => y &&& c)
  | [], _ => by simp [val, msk]
  | y :: l, h => by
    show (y + 256 * val l) &&& (c + 256 * msk c l.length) = (y &&& c) + 256 * val (l.map fun y => y &&& c)
    rw [and_cons (h y (by simp)) hc, and_val hc l (fun z hz => h z (by simp [hz]))]
theorem low1 : ∀ y, y < 256 → ∀ b, b < 2 → (y / 2 + 128 * b) &&& 85 = (y / 2) &&& 85 := by decide +kernel
theorem low2 : ∀ y, y < 256 → ∀ b, b < 4 → (y / 4 + 64 * b) &&& 51 = (y / 4) &&& 51 := by decide +kernel
theorem shr_val1 : ∀ (l : List Nat), (∀ y ∈ l, y < 256) → (val l / 2) &&& msk 85 l.length = val (l.map fun y => (y / 2) &&& 85)
  | [], _ => rfl
  | y :: l, h => by
    show ((y + 256 * val l) / 2) &&& (85 + 256 * msk 85 l.length) = ((y / 2) &&& 85) + 256 * val (l.map fun y => (y / 2) &&& 85)
    have hy := h y (by simp)
    have e : (y + 256 * val l) / 2 = (y / 2 + 128 * (val l % 2)) + 256 * (val l / 2) := by omega
    rw [e, and_cons (by omega) (by decide), shr_val1 l (fun z hz => h z (by simp [hz])), low1 y hy _ (by omega)]
theorem shr_val2 : ∀ (l : List Nat), (∀ y ∈ l, y < 256) → (val l / 4) &&& msk 51 l.length = val (l.map fun y => (y / 4) &&& 51)
  | [], _ => rfl
  | y :: l, h => by
    show ((y + 256 * val l) / 4) &&& (51 + 256 * msk 51 l.length) = ((y / 4) &&& 51) + 256 * val (l.map fun y => (y / 4) &&& 51)
    have hy := h y (by simp)
    have e : (y + 256 * val l) / 4 = (y / 4 + 64 * (val l % 4)) + 256 * (val l / 4) := by omega
    rw [e, and_cons (by omega) (by decide), shr_val2 l (fun z hz => h z (by simp [hz])), low2 y hy _ (by omega)]
theorem low3 : ∀ w, w ≤ 68 → ∀ b, b < 5 → (w / 16 + w + 16 * b) &&& 15 = (w / 16 + w) &&& 15 := by decide +kernel
theorem shr_val3 : ∀ (l : List Nat), (∀ y ∈ l, y ≤ 68 ∧ y % 16 ≤ 4) → (val l / 16 + val l) &&& msk 15 l.length = val (l.map fun y => (y / 16 + y) &&& 15)
  | [], _ => rfl
  | y :: l, h => by
    show ((y + 256 * val l) / 16 + (y + 256 * val l)) &&& (15 + 256 * msk 15 l.length) = ((y / 16 + y) &&& 15) + 256 * val (l.map fun y => (y / 16 + y) &&& 15)
    have hy := h y (by simp)
    have hv : val l % 16 ≤ 4 := by
      cases l with
      | nil => decide
      | cons z l =>
        have := h z (by simp)
        show (z + 256 * val l) % 16 ≤ 4
        omega
    have e : (y + 256 * val l) / 16 + (y + 256 * val l) = (y / 16 + y + 16 * (val l % 16)) + 256 * (val l / 16 + val l) := by omega
    rw [e, and_cons (by omega) (by decide), shr_val3 l (fun z hz => h z (by simp [hz])), low3 y hy.1 _ (by omega)]
theorem val_add (f g : Nat → Nat) : ∀ l : List Nat, val (l.map f) + val (l.map g) = val (l.map fun y => f y + g y)
  | [] => rfl
  | y :: l => by
    have := val_add f g l
    show f y + 256 * val (l.map f) + (g y + 256 * val (l.map g)) = f y + g y + 256 * val (l.map fun y => f y + g y)
    omega
theorem val_le {c : Nat} : ∀ (l : List Nat), (∀ y ∈ l, y ≤ c) → val l ≤ msk c l.length
  | [], _ => Nat.le_refl _
  | y :: l, h => by
    have h1 := val_le l (fun z hz => h z (by simp [hz]))
    have h2 := h y (by simp)
    show y + 256 * val l ≤ c + 256 * msk c l.length
    omega
def p1 (y : Nat) : Nat := ((y / 2) &&& 85) + (y &&& 85)
def p2 (y : Nat) : Nat := ((y / 4) &&& 51) + (y &&& 51)
def p3 (y : Nat) : Nat := (y / 16 + y) &&& 15
theorem p1_le : ∀ y, y < 256 → p1 y < 256 := by decide +kernel
theorem p2_le : ∀ y, y < 256 → p2 (p1 y) ≤ 68 ∧ p2 (p1 y) % 16 ≤ 4 := by decide +kernel
theorem p3_cnt : ∀ y, y < 256 → p3 (p2 (p1 y)) = cnt 8 y ∧ cnt 8 y ≤ 8 := by decide +kernel
def bytes (n : Nat) : List Nat := [n % 256, n / 256 % 256, n / 65536 % 256, n / 16777216 % 256, n / 4294967296 % 256, n / 1099511627776 % 256, n / 281474976710656 % 256, n / 72057594037927936 % 256]
theorem val_bytes {n : Nat} (hn : n < 2 ^ 64) : val (bytes n) = n := by
  simp only [bytes, val]
  omega
theorem bytes_lt (n : Nat) : ∀ y ∈ bytes n, y < 256 := by
  intro y hy
  simp only [bytes, List.mem_cons, List.not_mem_nil, or_false] at hy
  omega
theorem cnt_add : ∀ (a b x : Nat), cnt (a + b) x = cnt a x + cnt b (x / 2 ^ a)
  | 0, b, x => by simp [cnt]
  | a + 1, b, x => by
    rw [show a + 1 + b = (a + b) + 1 by omega]
    show x % 2 + cnt (a + b) (x / 2) = x % 2 + cnt a (x / 2) + cnt b (x / 2 ^ (a + 1))
    rw [cnt_add a b, Nat.div_div_eq_div_mul, Nat.pow_succ', Nat.add_assoc]
theorem cnt_mod : ∀ (a x : Nat), cnt a (x % 2 ^ a) = cnt a x
  | 0, x => rfl
  | a + 1, x => by
    show x % 2 ^ (a + 1) % 2 + cnt a (x % 2 ^ (a + 1) / 2) = x % 2 + cnt a (x / 2)
    rw [← cnt_mod a (x / 2), Nat.pow_succ']
    have e1 : x % (2 * 2 ^ a) % 2 = x % 2 := Nat.mod_mul_right_mod x 2 (2 ^ a)
    have e2 : x % (2 * 2 ^ a) / 2 = x / 2 % 2 ^ a := Nat.mod_mul_right_div_self x 2 (2 ^ a)
    rw [e1, e2]
theorem cnt_bytes (n : Nat) : cnt 64 n = cnt 8 (n % 256) + cnt 8 (n / 256 % 256) + cnt 8 (n / 65536 % 256) + cnt 8 (n / 16777216 % 256) + cnt 8 (n / 4294967296 % 256) + cnt 8 (n / 1099511627776 % 256) + cnt 8 (n / 281474976710656 % 256) + cnt 8 (n / 72057594037927936 % 256) := by
  have m : ∀ x, cnt 8 (x % 256) = cnt 8 x := cnt_mod 8
  rw [show (64 : Nat) = 8 + (8 + (8 + (8 + (8 + (8 + (8 + 8)))))) by rfl]
  simp only [cnt_add 8, m, Nat.div_div_eq_div_mul, Nat.reducePow, Nat.reduceMul]
  omega
theorem and_127 {x : Nat} (h : x < 2 ^ 63) : Go.bits .and .i64 (x : Int) 127 = ((x % 128 : Nat) : Int) := by
  have := (bits_nat .i64 63 (by decide) (fun n h0 h1 => by
    have h1' : n < 9223372036854775808 := h1
    rw [i64_w]
    exact w64 (by omega) (by omega)) x 127 h (by decide)).1
  rw [show x &&& 127 = x % 2 ^ 7 from Nat.and_two_pow_sub_one_eq_mod x 7] at this
  exact this
theorem div_of {a r m x : Nat} (h : a = r + m * x) (hr : r < m) : a / m = x := by
  rw [h, Nat.add_mul_div_left _ _ (by omega), Nat.div_eq_of_lt hr, Nat.zero_add]
theorem mod_of {a r m x : Nat} (h : a = r + m * x) (hr : r < m) : a % m = r := by
  rw [h, Nat.add_mul_mod_self_left, Nat.mod_eq_of_lt hr]
theorem wa (a b m : Nat) (h : a + b < 2 ^ 64) (e : a / m = b) : IntKind.u64.wrap ((a : Int) + (a : Int) / (m : Int)) = ((a + b : Nat) : Int) := by
  have : ((a : Int) / (m : Int)) = ((a / m : Nat) : Int) := rfl
  rw [this, e, ← Int.natCast_add, wu_nat h]
set_option linter.unusedVariables false
theorem fl_eq2 (e0 e1 e2 e3 e4 e5 e6 e7 : Nat) : (e0 + 256 * (e1 + 256 * (e2 + 256 * (e3 + 256 * (e4 + 256 * (e5 + 256 * (e6 + 256 * (e7 + 256 * 0)))))))) + (e1 + 256 * (e2 + 256 * (e3 + 256 * (e4 + 256 * (e5 + 256 * (e6 + 256 * (e7 + 256 * 0))))))) = ((e0 + e1) + 256 * (e1 + e2)) + 65536 * ((e2 + e3) + 256 * ((e3 + e4) + 256 * ((e4 + e5) + 256 * ((e5 + e6) + 256 * ((e6 + e7) + 256 * e7))))) := by omega
theorem fl_eq3 (e0 e1 e2 e3 e4 e5 e6 e7 : Nat) : (e0 + 256 * (e1 + 256 * (e2 + 256 * (e3 + 256 * (e4 + 256 * (e5 + 256 * (e6 + 256 * (e7 + 256 * 0)))))))) + (e1 + 256 * (e2 + 256 * (e3 + 256 * (e4 + 256 * (e5 + 256 * (e6 + 256 * (e7 + 256 * 0))))))) + ((e2 + e3) + 256 * ((e3 + e4) + 256 * ((e4 + e5) + 256 * ((e5 + e6) + 256 * ((e6 + e7) + 256 * e7))))) = ((e0 + e1 + e2 + e3) + 256 * ((e1 + e2 + e3 + e4) + 256 * ((e2 + e3 + e4 + e5) + 256 * (e3 + e4 + e5 + e6)))) + 4294967296 * ((e4 + e5 + e6 + e7) + 256 * ((e5 + e6 + e7) + 256 * ((e6 + e7) + 256 * e7))) := by omega
theorem fl_eq4 (e0 e1 e2 e3 e4 e5 e6 e7 : Nat) : (e0 + 256 * (e1 + 256 * (e2 + 256 * (e3 + 256 * (e4 + 256 * (e5 + 256 * (e6 + 256 * (e7 + 256 * 0)))))))) + (e1 + 256 * (e2 + 256 * (e3 + 256 * (e4 + 256 * (e5 + 256 * (e6 + 256 * (e7 + 256 * 0))))))) + ((e2 + e3) + 256 * ((e3 + e4) + 256 * ((e4 + e5) + 256 * ((e5 + e6) + 256 * ((e6 + e7) + 256 * e7))))) + ((e4 + e5 + e6 + e7) + 256 * ((e5 + e6 + e7) + 256 * ((e6 + e7) + 256 * e7))) = (e0 + e1 + e2 + e3 + e4 + e5 + e6 + e7) + 128 * (2 * ((e1 + e2 + e3 + e4 + e5 + e6 + e7) + 256 * ((e2 + e3 + e4 + e5 + e6 + e7) + 256 * ((e3 + e4 + e5 + e6 + e7) + 256 * ((e4 + e5 + e6 + e7) + 256 * ((e5 + e6 + e7) + 256 * ((e6 + e7) + 256 * e7))))))) := by omega
theorem fl_r2 {e0 e1 e2 e3 e4 e5 e6 e7 : Nat} (q0 : e0 ≤ 8) (q1 : e1 ≤ 8) (q2 : e2 ≤ 8) (q3 : e3 ≤ 8) (q4 : e4 ≤ 8) (q5 : e5 ≤ 8) (q6 : e6 ≤ 8) (q7 : e7 ≤ 8) : (e0 + e1) + 256 * (e1 + e2) < 65536 := by omega
theorem fl_r3 {e0 e1 e2 e3 e4 e5 e6 e7 : Nat} (q0 : e0 ≤ 8) (q1 : e1 ≤ 8) (q2 : e2 ≤ 8) (q3 : e3 ≤ 8) (q4 : e4 ≤ 8) (q5 : e5 ≤ 8) (q6 : e6 ≤ 8) (q7 : e7 ≤ 8) : (e0 + e1 + e2 + e3) + 256 * ((e1 + e2 + e3 + e4) + 256 * ((e2 + e3 + e4 + e5) + 256 * (e3 + e4 + e5 + e6))) < 4294967296 := by omega
theorem fl_b0 {e0 e1 e2 e3 e4 e5 e6 e7 : Nat} (q0 : e0 ≤ 8) (q1 : e1 ≤ 8) (q2 : e2 ≤ 8) (q3 : e3 ≤ 8) (q4 : e4 ≤ 8) (q5 : e5 ≤ 8) (q6 : e6 ≤ 8) (q7 : e7 ≤ 8) : e0 + 256 * (e1 + 256 * (e2 + 256 * (e3 + 256 * (e4 + 256 * (e5 + 256 * (e6 + 256 * (e7 + 256 * 0))))))) < 1000000000000000000 := by omega
theorem fl_b1 {e0 e1 e2 e3 e4 e5 e6 e7 : Nat} (q0 : e0 ≤ 8) (q1 : e1 ≤ 8) (q2 : e2 ≤ 8) (q3 : e3 ≤ 8) (q4 : e4 ≤ 8) (q5 : e5 ≤ 8) (q6 : e6 ≤ 8) (q7 : e7 ≤ 8) : e1 + 256 * (e2 + 256 * (e3 + 256 * (e4 + 256 * (e5 + 256 * (e6 + 256 * (e7 + 256 * 0)))))) < 10000000000000000 := by omega
theorem fl_b2 {e0 e1 e2 e3 e4 e5 e6 e7 : Nat} (q0 : e0 ≤ 8) (q1 : e1 ≤ 8) (q2 : e2 ≤ 8) (q3 : e3 ≤ 8) (q4 : e4 ≤ 8) (q5 : e5 ≤ 8) (q6 : e6 ≤ 8) (q7 : e7 ≤ 8) : (e2 + e3) + 256 * ((e3 + e4) + 256 * ((e4 + e5) + 256 * ((e5 + e6) + 256 * ((e6 + e7) + 256 * e7)))) < 100000000000000 := by omega
theorem fl_b3 {e0 e1 e2 e3 e4 e5 e6 e7 : Nat} (q0 : e0 ≤ 8) (q1 : e1 ≤ 8) (q2 : e2 ≤ 8) (q3 : e3 ≤ 8) (q4 : e4 ≤ 8) (q5 : e5 ≤ 8) (q6 : e6 ≤ 8) (q7 : e7 ≤ 8) : (e4 + e5 + e6 + e7) + 256 * ((e5 + e6 + e7) + 256 * ((e6 + e7) + 256 * e7)) < 1000000000000 := by omega
theorem fl_s {e0 e1 e2 e3 e4 e5 e6 e7 : Nat} (q0 : e0 ≤ 8) (q1 : e1 ≤ 8) (q2 : e2 ≤ 8) (q3 : e3 ≤ 8) (q4 : e4 ≤ 8) (q5 : e5 ≤ 8) (q6 : e6 ≤ 8) (q7 : e7 ≤ 8) : e0 + e1 + e2 + e3 + e4 + e5 + e6 + e7 < 128 := by omega
theorem fold_core {C X1 X2 X3 X4 S r2 r3 e0 : Nat} (E1 : C = e0 + 256 * X1) (E2 : C + X1 = r2 + 65536 * X2) (E3 : C + X1 + X2 = r3 + 4294967296 * X3) (E4 : C + X1 + X2 + X3 = S + 128 * X4) (R1 : e0 < 256) (R2 : r2 < 65536) (R3 : r3 < 4294967296) (SL : S < 128)
    (B0 : C < 1000000000000000000) (B1 : X1 < 10000000000000000) (B2 : X2 < 100000000000000) (B3 : X3 < 1000000000000) :
    Go.bits .and .i64 (wrap64 (IntKind.u64.wrap ((IntKind.u64.wrap ((IntKind.u64.wrap ((C : Int) + (C : Int) / 256)) + (IntKind.u64.wrap ((C : Int) + (C : Int) / 256)) / 65536)) + (IntKind.u64.wrap ((IntKind.u64.wrap ((C : Int) + (C : Int) / 256)) + (IntKind.u64.wrap ((C : Int) + (C : Int) / 256)) / 65536)) / 4294967296))) 127 = (S : Int) := by
  have d1 : C / 256 = X1 := div_of E1 R1
  have d2 : (C + X1) / 65536 = X2 := div_of E2 R2
  have d3 : (C + X1 + X2) / 4294967296 = X3 := div_of E3 R3
  have r4 : (C + X1 + X2 + X3) % 128 = S := mod_of E4 SL
  clear E1 E2 E3 E4 R1 R2 R3 SL
  have k1 := wa C X1 256 (by clear d1 d2 d3 r4; omega) d1
  have k2 := wa (C + X1) X2 65536 (by clear d1 d2 d3 r4 k1; omega) d2
  have k3 := wa (C + X1 + X2) X3 4294967296 (by clear d1 d2 d3 r4 k1 k2; omega) d3
  have lt : C + X1 + X2 + X3 < 2 ^ 63 := by clear d1 d2 d3 r4 k1 k2 k3; omega
  rw [show ((256 : Nat) : Int) = 256 from rfl] at k1
  rw [show ((65536 : Nat) : Int) = 65536 from rfl] at k2
  rw [show ((4294967296 : Nat) : Int) = 4294967296 from rfl] at k3
  rw [k1, k2, k3, w64 (by clear d1 d2 d3 r4 k1 k2 k3; omega) (by clear d1 d2 d3 r4 k1 k2 k3; omega), and_127 lt, r4]
theorem fold_bytes {e0 e1 e2 e3 e4 e5 e6 e7 : Nat} (q0 : e0 ≤ 8) (q1 : e1 ≤ 8) (q2 : e2 ≤ 8) (q3 : e3 ≤ 8) (q4 : e4 ≤ 8) (q5 : e5 ≤ 8) (q6 : e6 ≤ 8) (q7 : e7 ≤ 8) :
    Go.bits .and .i64 (wrap64 (IntKind.u64.wrap ((IntKind.u64.wrap ((IntKind.u64.wrap (((e0 + 256 * (e1 + 256 * (e2 + 256 * (e3 + 256 * (e4 + 256 * (e5 + 256 * (e6 + 256 * (e7 + 256 * 0))))))) : Nat) : Int) + ((e0 + 256 * (e1 + 256 * (e2 + 256 * (e3 + 256 * (e4 + 256 * (e5 + 256 * (e6 + 256 * (e7 + 256 * 0))))))) : Nat) : Int) / 256)) + (IntKind.u64.wrap (((e0 + 256 * (e1 + 256 * (e2 + 256 * (e3 + 256 * (e4 + 256 * (e5 + 256 * (e6 + 256 * (e7 + 256 * 0))))))) : Nat) : Int) + ((e0 + 256 * (e1 + 256 * (e2 + 256 * (e3 + 256 * (e4 + 256 * (e5 + 256 * (e6 + 256 * (e7 + 256 * 0))))))) : Nat) : Int) / 256)) / 65536)) + (IntKind.u64.wrap ((IntKind.u64.wrap (((e0 + 256 * (e1 + 256 * (e2 + 256 * (e3 + 256 * (e4 + 256 * (e5 + 256 * (e6 + 256 * (e7 + 256 * 0))))))) : Nat) : Int) + ((e0 + 256 * (e1 + 256 * (e2 + 256 * (e3 + 256 * (e4 + 256 * (e5 + 256 * (e6 + 256 * (e7 + 256 * 0))))))) : Nat) : Int) / 256)) + (IntKind.u64.wrap (((e0 + 256 * (e1 + 256 * (e2 + 256 * (e3 + 256 * (e4 + 256 * (e5 + 256 * (e6 + 256 * (e7 + 256 * 0))))))) : Nat) : Int) + ((e0 + 256 * (e1 + 256 * (e2 + 256 * (e3 + 256 * (e4 + 256 * (e5 + 256 * (e6 + 256 * (e7 + 256 * 0))))))) : Nat) : Int) / 256)) / 65536)) / 4294967296))) 127 = ((e0 + e1 + e2 + e3 + e4 + e5 + e6 + e7 : Nat) : Int) :=
  fold_core (e0 := e0) rfl (fl_eq2 e0 e1 e2 e3 e4 e5 e6 e7) (fl_eq3 e0 e1 e2 e3 e4 e5 e6 e7) (fl_eq4 e0 e1 e2 e3 e4 e5 e6 e7) (Nat.lt_of_le_of_lt q0 (by decide)) (fl_r2 q0 q1 q2 q3 q4 q5 q6 q7) (fl_r3 q0 q1 q2 q3 q4 q5 q6 q7) (fl_s q0 q1 q2 q3 q4 q5 q6 q7)
    (fl_b0 q0 q1 q2 q3 q4 q5 q6 q7) (fl_b1 q0 q1 q2 q3 q4 q5 q6 q7) (fl_b2 q0 q1 q2 q3 q4 q5 q6 q7) (fl_b3 q0 q1 q2 q3 q4 q5 q6 q7)
set_option maxRecDepth 10000 in
theorem len_eq {n : Nat} (hn : n < 2 ^ 64) : set_Len.f (n : Int) = some ((cnt 64 n : Nat) : Int) := by
  have hb := bytes_lt n
  have m1 : msk 85 8 = 6148914691236517205 := by decide
  have m2 : msk 51 8 = 3689348814741910323 := by decide
  have m3 : msk 15 8 = 1085102592571150095 := by decide
  have lb : (bytes n).length = 8 := rfl
  have A1 := shr_val1 (bytes n) hb
  have A2 := and_val (c := 85) (by decide) (bytes n) hb
  rw [val_bytes hn, lb, m1] at A1 A2
  have A3 : ((n / 2) &&& 6148914691236517205) + (n &&& 6148914691236517205) = val ((bytes n).map p1) := by rw [A1, A2, val_add]; rfl
  have hb1 : ∀ y ∈ (bytes n).map p1, y < 256 := by
    intro y hy
    obtain ⟨z, hz, rfl⟩ := List.mem_map.1 hy
    exact p1_le z (hb z hz)
  have l1 : ((bytes n).map p1).length = 8 := rfl
  have bA : val ((bytes n).map p1) < 2 ^ 64 := by
    have := val_le (c := 255) _ (fun y hy => by have := hb1 y hy; omega : ∀ y ∈ (bytes n).map p1, y ≤ 255)
    rw [l1, show msk 255 8 = 18446744073709551615 by decide] at this
    omega
  have B1 := shr_val2 _ hb1
  have B2 := and_val (c := 51) (by decide) _ hb1
  rw [l1, m2] at B1 B2
  have B3 : ((val ((bytes n).map p1) / 4) &&& 3689348814741910323) + (val ((bytes n).map p1) &&& 3689348814741910323) = val ((bytes n).map fun y => p2 (p1 y)) := by rw [B1, B2, val_add, List.map_map]; rfl
  have hb2 : ∀ y ∈ (bytes n).map fun y => p2 (p1 y), y ≤ 68 ∧ y % 16 ≤ 4 := by
    intro y hy
    obtain ⟨z, hz, rfl⟩ := List.mem_map.1 hy
    exact p2_le z (hb z hz)
  have l2 : ((bytes n).map fun y => p2 (p1 y)).length = 8 := rfl
  have bB := val_le (c := 68) _ (fun y hy => (hb2 y hy).1)
  rw [l2, show msk 68 8 = 4919131752989213764 by decide] at bB
  have C1 := shr_val3 _ hb2
  rw [l2, m3, List.map_map] at C1
  have C2 : val (((bytes n).map (((fun y => (y / 16 + y) &&& 15)) ∘ fun y => p2 (p1 y)))) = val ((bytes n).map fun y => cnt 8 y) := by
    congr 1
    refine List.map_congr_left fun y hy => ?_
    exact (p3_cnt y (hb y hy)).1
  rw [C2] at C1
  have hc : ∀ y ∈ bytes n, cnt 8 y ≤ 8 := fun y hy => (p3_cnt y (hb y hy)).2
  generalize hA : val ((bytes n).map p1) = A at *
  generalize hB : val ((bytes n).map fun y => p2 (p1 y)) = B at *
  have tot := cnt_bytes n
  simp only [bytes, List.map_cons, List.map_nil, List.mem_cons, List.not_mem_nil, or_false, forall_eq_or_imp, forall_eq, val] at C1 hc
  obtain ⟨q0, q1, q2, q3, q4, q5, q6, q7⟩ := hc
  generalize cnt 8 (n % 256) = e0 at *
  generalize cnt 8 (n / 256 % 256) = e1 at *
  generalize cnt 8 (n / 65536 % 256) = e2 at *
  generalize cnt 8 (n / 16777216 % 256) = e3 at *
  generalize cnt 8 (n / 4294967296 % 256) = e4 at *
  generalize cnt 8 (n / 1099511627776 % 256) = e5 at *
  generalize cnt 8 (n / 281474976710656 % 256) = e6 at *
  generalize cnt 8 (n / 72057594037927936 % 256) = e7 at *
  rw [tot]
  clear hA hB hb hb1 hb2 l1 l2 lb C2 tot m1 m2 m3
  have h1 : Go.bits .and .u64 ((n : Int) / 2) 6148914691236517205 = (((n / 2) &&& 6148914691236517205 : Nat) : Int) := and_u (a := n / 2) (b := 6148914691236517205) (by omega) (by decide)
  have h2 : Go.bits .and .u64 (n : Int) 6148914691236517205 = ((n &&& 6148914691236517205 : Nat) : Int) := and_u (a := n) (b := 6148914691236517205) hn (by decide)
  have h3 : IntKind.u64.wrap ((((n / 2) &&& 6148914691236517205 : Nat) : Int) + ((n &&& 6148914691236517205 : Nat) : Int)) = (A : Int) := by rw [← Int.natCast_add, A3]; exact wu_nat bA
  have h4 : Go.bits .and .u64 ((A : Int) / 4) 3689348814741910323 = (((A / 4) &&& 3689348814741910323 : Nat) : Int) := and_u (a := A / 4) (b := 3689348814741910323) (by omega) (by decide)
  have h5 : Go.bits .and .u64 (A : Int) 3689348814741910323 = ((A &&& 3689348814741910323 : Nat) : Int) := and_u (a := A) (b := 3689348814741910323) bA (by decide)
  have h6 : IntKind.u64.wrap ((((A / 4) &&& 3689348814741910323 : Nat) : Int) + ((A &&& 3689348814741910323 : Nat) : Int)) = (B : Int) := by rw [← Int.natCast_add, B3]; exact wu_nat (by omega)
  have h7 : IntKind.u64.wrap ((B : Int) / 16 + (B : Int)) = ((B / 16 + B : Nat) : Int) := wu_nat (n := B / 16 + B) (by omega)
  have h8 : Go.bits .and .u64 ((B / 16 + B : Nat) : Int) 1085102592571150095 = (((B / 16 + B) &&& 1085102592571150095 : Nat) : Int) := and_u (a := B / 16 + B) (b := 1085102592571150095) (by omega) (by decide)
  simp only [set_Len.f, bits_OnesCount64.f, Option.bind_some, Option.some.injEq]
  simp only [h1, h2, h3, h4, h5, h6, h7, h8, C1]
  clear h1 h2 h3 h4 h5 h6 h7 h8 A1 A2 A3 B1 B2 B3 C1 bA bB hn
  exact fold_bytes q0 q1 q2 q3 q4 q5 q6 q7
end Go.Proofs.YtgnhokepcdopgaaDoor.Sets
