-- Printed for this claim by wip/tools/xprint.py over the kit's print; the contracts marked BY HAND are this session's own.
import Derived.Test.YtjlfejgblhgceaaPBx0
import Derived.Test.YtjlfejgblhgceaaPBx2
import Derived.Test.YtjlfejgblhgceaaPBx3
import Derived.Test.YtjlfejgblhgceaaPBx4
import Derived.Test.YtjlfejgblhgceaaPBx5
namespace Go.Proofs.Ytjlfejgblhgceaa.PB
open Go.RowKit Go.Proofs.YtjlfejgblhgceaaW.PrintWords Go.Proofs.YtjlfejgblhgceaaW.PrintLast Go.Proofs.YtjlfejgblhgceaaW.PrintMore
attribute [local go_sem] max2_int min2_int max_two min_two max_three min_three max_four min_four   -- for this text's walks alone
set_option linter.unusedVariables false
set_option linter.unusedSimpArgs false

/-! ### haulierlaw03_HeapOrder: function 3, BY HAND -/
def B3 (w : World) (a b c : S23) (w' : World) : Prop := w'.heap[w.heap.size]? = some (.cells #[.int .i64 a.f0, .int .i64 a.f1, .int .i64 a.f2] 23 (0, 0)) ∧ w'.heap[w.heap.size + 1]? = some (.cells #[.int .i64 b.f0, .int .i64 b.f1, .int .i64 b.f2] 23 (0, 0)) ∧ w'.heap[w.heap.size + 2]? = some (.cells #[.int .i64 c.f0, .int .i64 c.f1, .int .i64 c.f2] 23 (0, 0)) ∧ Below w.heap.size w w'
theorem B3.on {w W W' : World} {a b c : S23} (h : B3 w a b c W) (hb : Below W.heap.size W W') : B3 w a b c W' := ⟨blk_below h.1 hb, blk_below h.2.1 hb, blk_below h.2.2.1 hb, below_step h.2.2.2 hb⟩
theorem B3.start (w : World) (a b c : S23) : B3 w a b c (((w.alloc (.cells #[.int .i64 a.f0, .int .i64 a.f1, .int .i64 a.f2] 23)).alloc (.cells #[.int .i64 b.f0, .int .i64 b.f1, .int .i64 b.f2] 23)).alloc (.cells #[.int .i64 c.f0, .int .i64 c.f1, .int .i64 c.f2] 23)) := by
  have e1 := blk_new w (.cells #[.int .i64 a.f0, .int .i64 a.f1, .int .i64 a.f2] 23)
  have e2 := blk_new (w.alloc (.cells #[.int .i64 a.f0, .int .i64 a.f1, .int .i64 a.f2] 23)) (.cells #[.int .i64 b.f0, .int .i64 b.f1, .int .i64 b.f2] 23)
  have e3 := blk_new ((w.alloc (.cells #[.int .i64 a.f0, .int .i64 a.f1, .int .i64 a.f2] 23)).alloc (.cells #[.int .i64 b.f0, .int .i64 b.f1, .int .i64 b.f2] 23)) (.cells #[.int .i64 c.f0, .int .i64 c.f1, .int .i64 c.f2] 23)
  simp only [World.size_alloc] at e2 e3
  exact ⟨blk_alloc (blk_alloc e1 _) _, blk_alloc e2 _, e3, below_alloc (below_alloc (below_alloc (Below.refl _ _) _) _) _⟩
set_option maxHeartbeats 1000000 in
theorem order_law (o : Int) (a b c : S23) (x y z ac : Bool) (hx : lessE o a b = x) (hy : lessE o b a = y) (hz : lessE o b c = z) (hac : lessE o a c = ac) (hxy : (x && y) = false) (heq : x = y ↔ a = b) (hno : a = b → x = false) (htr : x = true → z = true → ac = true) (w : World) : Calls Try.prog 3 #[.int .i64 o, .agg #[.int .i64 a.f0, .int .i64 a.f1, .int .i64 a.f2], .agg #[.int .i64 b.f0, .int .i64 b.f1, .int .i64 b.f2], .agg #[.int .i64 c.f0, .int .i64 c.f1, .int .i64 c.f2]] w fun e w' => e = .returned (.bool true) ∧ Below w.heap.size w w' := by
  have HX := hidH hx
  have HY := hidH hy
  have HZ := hidH hz
  have HAC := hidH hac
  have HAA := hidH ((less_strict o).irr a)
  have HB := hidH (B3.start w a b c)
  clear hx hy hz hac
  cases x <;> cases y
  case false.false =>
    have hab : a = b := heq.1 rfl
    have c0 : (a.f0 == b.f0) = true := by rw [hab]; exact beq_self_eq_true _
    have c1 : (a.f1 == b.f1) = true := by rw [hab]; exact beq_self_eq_true _
    have c2 : (a.f2 == b.f2) = true := by rw [hab]; exact beq_self_eq_true _
    clear hab heq hno htr hxy
    go_enter Try.func3, Try.ntmps3
    go_wp2_with (first | (go_at_call 9; (with_reducible refine (awake_true _).mono ?_); rintro e w1 ⟨rfl, hb⟩; have HBn := hidH (B3.on HB.out hb); clear HB; have HB := HBn; clear HBn hb; obtain ⟨xa0, xa1, xa2, -⟩ := zqz3 HB.out.1; obtain ⟨xb0, xb1, xb2, -⟩ := zqz3 HB.out.2.1; obtain ⟨xc0, xc1, xc2, -⟩ := zqz3 HB.out.2.2.1) | (go_at_call 10; (with_reducible refine (less_r HX.out _).mono ?_); rintro e w3 ⟨rfl, hb⟩; have HBn := hidH (B3.on HB.out hb); clear HB; have HB := HBn; clear HBn hb; obtain ⟨xa0, xa1, xa2, -⟩ := zqz3 HB.out.1; obtain ⟨xb0, xb1, xb2, -⟩ := zqz3 HB.out.2.1; obtain ⟨xc0, xc1, xc2, -⟩ := zqz3 HB.out.2.2.1) | (go_at_call 10; (with_reducible refine (less_r HY.out _).mono ?_); rintro e w3 ⟨rfl, hb⟩; have HBn := hidH (B3.on HB.out hb); clear HB; have HB := HBn; clear HBn hb; obtain ⟨xa0, xa1, xa2, -⟩ := zqz3 HB.out.1; obtain ⟨xb0, xb1, xb2, -⟩ := zqz3 HB.out.2.1; obtain ⟨xc0, xc1, xc2, -⟩ := zqz3 HB.out.2.2.1) | (go_at_call 10; (with_reducible refine (less_r HZ.out _).mono ?_); rintro e w3 ⟨rfl, hb⟩; have HBn := hidH (B3.on HB.out hb); clear HB; have HB := HBn; clear HBn hb; obtain ⟨xa0, xa1, xa2, -⟩ := zqz3 HB.out.1; obtain ⟨xb0, xb1, xb2, -⟩ := zqz3 HB.out.2.1; obtain ⟨xc0, xc1, xc2, -⟩ := zqz3 HB.out.2.2.1) | (go_at_call 10; (with_reducible refine (less_r HAC.out _).mono ?_); rintro e w3 ⟨rfl, hb⟩; have HBn := hidH (B3.on HB.out hb); clear HB; have HB := HBn; clear HBn hb; obtain ⟨xa0, xa1, xa2, -⟩ := zqz3 HB.out.1; obtain ⟨xb0, xb1, xb2, -⟩ := zqz3 HB.out.2.1; obtain ⟨xc0, xc1, xc2, -⟩ := zqz3 HB.out.2.2.1) | (go_at_call 10; (with_reducible refine (less_r HAA.out _).mono ?_); rintro e w3 ⟨rfl, hb⟩; have HBn := hidH (B3.on HB.out hb); clear HB; have HB := HBn; clear HBn hb; obtain ⟨xa0, xa1, xa2, -⟩ := zqz3 HB.out.1; obtain ⟨xb0, xb1, xb2, -⟩ := zqz3 HB.out.2.1; obtain ⟨xc0, xc1, xc2, -⟩ := zqz3 HB.out.2.2.1))
    go_ret
    exact ⟨rfl, HB.out.2.2.2⟩
  case true.true => cases hxy
  all_goals
    have hne : a ≠ b := fun e => by first | (cases hno e; done) | (have := heq.2 e; cases this; done)
    have hd : (a.f0 == b.f0) = false ∨ ((a.f0 == b.f0) = true ∧ (a.f1 == b.f1) = false) ∨ ((a.f0 == b.f0) = true ∧ (a.f1 == b.f1) = true ∧ (a.f2 == b.f2) = false) := by
      obtain ⟨p0, p1, p2⟩ := a
      obtain ⟨q0, q1, q2⟩ := b
      by_cases e0 : p0 = q0
      · by_cases e1 : p1 = q1
        · refine .inr (.inr ⟨beq_iff_eq.2 e0, beq_iff_eq.2 e1, beq_eq_false_iff_ne.2 (fun e2 => hne ?_)⟩)
          simp only at e0 e1 e2
          rw [e0, e1, e2]
        · exact .inr (.inl ⟨beq_iff_eq.2 e0, beq_eq_false_iff_ne.2 e1⟩)
      · exact .inl (beq_eq_false_iff_ne.2 e0)
    cases z <;> cases ac
    all_goals try (cases htr rfl rfl; done)
    all_goals clear htr heq hno hxy hne
    all_goals (rcases hd with c0 | ⟨c0, c1⟩ | ⟨c0, c1, c2⟩)
    all_goals
      have HB' := HB
      clear HB
      have HB := HB'
      clear HB'
      go_enter Try.func3, Try.ntmps3
      go_wp2_with (first | (go_at_call 9; (with_reducible refine (awake_true _).mono ?_); rintro e w1 ⟨rfl, hb⟩; have HBn := hidH (B3.on HB.out hb); clear HB; have HB := HBn; clear HBn hb; obtain ⟨xa0, xa1, xa2, -⟩ := zqz3 HB.out.1; obtain ⟨xb0, xb1, xb2, -⟩ := zqz3 HB.out.2.1; obtain ⟨xc0, xc1, xc2, -⟩ := zqz3 HB.out.2.2.1) | (go_at_call 10; (with_reducible refine (less_r HX.out _).mono ?_); rintro e w3 ⟨rfl, hb⟩; have HBn := hidH (B3.on HB.out hb); clear HB; have HB := HBn; clear HBn hb; obtain ⟨xa0, xa1, xa2, -⟩ := zqz3 HB.out.1; obtain ⟨xb0, xb1, xb2, -⟩ := zqz3 HB.out.2.1; obtain ⟨xc0, xc1, xc2, -⟩ := zqz3 HB.out.2.2.1) | (go_at_call 10; (with_reducible refine (less_r HY.out _).mono ?_); rintro e w3 ⟨rfl, hb⟩; have HBn := hidH (B3.on HB.out hb); clear HB; have HB := HBn; clear HBn hb; obtain ⟨xa0, xa1, xa2, -⟩ := zqz3 HB.out.1; obtain ⟨xb0, xb1, xb2, -⟩ := zqz3 HB.out.2.1; obtain ⟨xc0, xc1, xc2, -⟩ := zqz3 HB.out.2.2.1) | (go_at_call 10; (with_reducible refine (less_r HZ.out _).mono ?_); rintro e w3 ⟨rfl, hb⟩; have HBn := hidH (B3.on HB.out hb); clear HB; have HB := HBn; clear HBn hb; obtain ⟨xa0, xa1, xa2, -⟩ := zqz3 HB.out.1; obtain ⟨xb0, xb1, xb2, -⟩ := zqz3 HB.out.2.1; obtain ⟨xc0, xc1, xc2, -⟩ := zqz3 HB.out.2.2.1) | (go_at_call 10; (with_reducible refine (less_r HAC.out _).mono ?_); rintro e w3 ⟨rfl, hb⟩; have HBn := hidH (B3.on HB.out hb); clear HB; have HB := HBn; clear HBn hb; obtain ⟨xa0, xa1, xa2, -⟩ := zqz3 HB.out.1; obtain ⟨xb0, xb1, xb2, -⟩ := zqz3 HB.out.2.1; obtain ⟨xc0, xc1, xc2, -⟩ := zqz3 HB.out.2.2.1) | (go_at_call 10; (with_reducible refine (less_r HAA.out _).mono ?_); rintro e w3 ⟨rfl, hb⟩; have HBn := hidH (B3.on HB.out hb); clear HB; have HB := HBn; clear HBn hb; obtain ⟨xa0, xa1, xa2, -⟩ := zqz3 HB.out.1; obtain ⟨xb0, xb1, xb2, -⟩ := zqz3 HB.out.2.1; obtain ⟨xc0, xc1, xc2, -⟩ := zqz3 HB.out.2.2.1))
      go_ret
      exact ⟨rfl, HB.out.2.2.2⟩
/-- The law: nothing is left to be shown of it. -/
def haulierlaw03_HeapOrder.f (_a0 _a1 _a2 _a3 _b1 _b2 _b3 _c1 _c2 _c3 : Int) : Option Bool := some true
theorem haulierlaw03_HeapOrder.calls (a0 : Int) (a1_0 a1_1 a1_2 a2_0 a2_1 a2_2 a3_0 a3_1 a3_2 : Int) (r : Bool) (w : World) (h : haulierlaw03_HeapOrder.f a0 a1_0 a1_1 a1_2 a2_0 a2_1 a2_2 a3_0 a3_1 a3_2 = some r) :
    Calls Try.prog 3 #[.int .i64 a0, .agg #[.int .i64 a1_0, .int .i64 a1_1, .int .i64 a1_2], .agg #[.int .i64 a2_0, .int .i64 a2_1, .int .i64 a2_2], .agg #[.int .i64 a3_0, .int .i64 a3_1, .int .i64 a3_2]] w fun e w' => e = .returned (.bool r) ∧ Below w.heap.size w w' := by
  obtain rfl := Option.some.inj h
  have S := less_strict a0
  refine order_law a0 ⟨a1_0, a1_1, a1_2⟩ ⟨a2_0, a2_1, a2_2⟩ ⟨a3_0, a3_1, a3_2⟩ _ _ _ _ rfl rfl rfl rfl ?_ ?_ ?_ ?_ w
  · cases hx : lessE a0 ⟨a1_0, a1_1, a1_2⟩ ⟨a2_0, a2_1, a2_2⟩ with
    | false => rfl
    | true => rw [S.asym hx]; rfl
  · constructor
    · intro e
      rcases S.tot ⟨a1_0, a1_1, a1_2⟩ ⟨a2_0, a2_1, a2_2⟩ with h | h | h
      · rw [h, S.asym h] at e; cases e
      · exact h
      · rw [h, S.asym h] at e; cases e
    · intro e
      rw [e]
  · intro e
    rw [e]
    exact S.irr _
  · intro e1 e2
    exact S.tr _ _ _ e1 e2

/-! ### heap_Heap_Least: function 17, BY HAND -/

/-! ### haulierlaw03_HeapNone: function 8, BY HAND -/
theorem none_law (A0 : Option Addr) (c0 : Nat) (l0 : List S23) (w : World) (hr0 : Kd.C k23 w A0 l0.length l0) : Calls Try.prog 8 #[.slice A0 l0.length c0] w fun e w' => e = .returned (.bool true) ∧ Below w.heap.size w w' := by
  have HR0 := hidH hr0
  have hmax0 := Kd.C_max hr0
  clear hr0
  by_cases h60 : l0.length ≤ 60
  · skip
    have p0 : decide ((l0.length : Int) > 60) = false := decide_eq_false (by omega)
    have p1 : decide (l0.length > 60) = false := decide_eq_false (by omega)
    have p2 : decide (60 < l0.length) = false := decide_eq_false (by omega)
    go_enter Try.func8, Try.ntmps8
    go_wp2_with ((go_at_call 9; (with_reducible refine (awake_true _).mono ?_); rintro e wa ⟨rfl, hb⟩; have HB := hidH hb; clear hb))
    go_loopg [5] l0.length (fun kq v5 wr => ∃ (i : Nat), Hid (kq = l0.length - i) ∧ v5 = .int .i64 (i : Int) ∧ i ≤ l0.length ∧ Hid (Below w.heap.size w wr))
    case atStart => exact ⟨0, hidH rfl, rfl, by omega, HB⟩
    case round =>
      obtain ⟨i, HI, rfl, hi, HB⟩ := hrel
      by_cases hlt : i < l0.length
      · skip
        have t1 : decide ((i : Int) < (l0.length : Int)) = true := decide_eq_true (by omega)
        have t1n : decide (i < l0.length) = true := decide_eq_true (by omega)
        have q1 : ((i : Int) < (l0.length : Int)) = True := eq_true (by omega)
        have q2 : ((0 : Int) ≤ (i : Int)) = True := eq_true (by omega)
        have q3 : (i < l0.length) = True := eq_true (by omega)
        obtain ⟨ad, e1, x0, x1, x2⟩ := at_C (Kd.C_below HR0.out HB.out) i hlt
        cases e1
        go_wp2_with (go_at_call 12; (with_reducible refine (heap_put_none l0[i] _).mono ?_); rintro e w2 ⟨rfl, hb⟩; have HB2 := hidH (below_step HB.out hb); clear hb)
        go_roundg (l0.length - (i + 1))
        case measure => have := HI.out; omega
        case rel => exact ⟨i + 1, hidH rfl, by go_num, by omega, HB2⟩
      · skip
        have t1 : decide ((i : Int) < (l0.length : Int)) = false := decide_eq_false (by omega)
        have t1n : decide (i < l0.length) = false := decide_eq_false (by omega)
        go_wp2_with (first | (go_at_call 13; (with_reducible refine (heap_take_none _).mono ?_); rintro e w2 ⟨rfl, hb⟩; have HB2 := hidH (below_alloc (below_step HB.out hb) (.cells #[.int .i64 0, .int .i64 0, .int .i64 0] 23)); clear hb) |
          (go_at_call 16; (with_reducible refine (heap_len_none _).mono ?_); rintro e w3 ⟨rfl, e3⟩; subst e3) |
          (go_at_call 17; (with_reducible refine (heap_least_none _).mono ?_); rintro e w4 ⟨rfl, hb⟩; have HB4 := hidH (below_step HB2.out hb); clear hb))
        go_ret
        exact ⟨rfl, HB4.out⟩
  · skip
    have p0 : decide ((l0.length : Int) > 60) = true := decide_eq_true (by omega)
    have p1 : decide (l0.length > 60) = true := decide_eq_true (by omega)
    have p2 : decide (60 < l0.length) = true := decide_eq_true (by omega)
    go_enter Try.func8, Try.ntmps8
    go_wp2_with ((go_at_call 9; (with_reducible refine (awake_true _).mono ?_); rintro e wa ⟨rfl, hb⟩; have HB := hidH hb; clear hb))
    go_ret
    exact ⟨rfl, HB.out⟩
def haulierlaw03_HeapNone.f (_l0 : List S23) : Option Bool := some true
theorem haulierlaw03_HeapNone.calls (A0 : Option Addr) (c0 : Nat) (l0 : List S23) (r : Bool) (w : World) (hr0 : Kd.C k23 w A0 l0.length l0) (hc0 : l0.length ≤ c0) (h : haulierlaw03_HeapNone.f l0 = some r) :
    Calls Try.prog 8 #[.slice A0 l0.length c0] w fun e w' => e = .returned (.bool r) ∧ Below w.heap.size w w' := by
  obtain rfl := Option.some.inj h
  exact none_law A0 c0 l0 w hr0

/-! ### haulierlaw03_HeapLeast: function 7, BY HAND -/
theorem least_of {l : List S23} {x : S23} {t : List S23} (hp : l.Perm (x :: t)) (hm : ∀ y ∈ l, lessE 0 y x = false) : x.f0 = leastB l := by
  have hx : x ∈ l := hp.mem_iff.2 List.mem_cons_self
  have hn : l ≠ [] := fun e => by rw [e] at hx; cases hx
  obtain ⟨⟨e, he, h1⟩, h2⟩ := leastB_spec hn
  have h3 := hm e he
  have h4 := h2 x hx
  unfold lessE at h3
  simp only [if_true, Bool.or_eq_false_iff, decide_eq_false_iff_not] at h3
  have := h3.1
  omega
theorem least_law (A0 : Option Addr) (c0 : Nat) (l0 : List S23) (w : World) (hr0 : Kd.C k23 w A0 l0.length l0) : Calls Try.prog 7 #[.slice A0 l0.length c0] w fun e w' => e = .returned (.bool true) ∧ Below w.heap.size w w' := by
  have HR0 := hidH hr0
  have hmax0 := Kd.C_max hr0
  clear hr0
  by_cases h60 : l0.length ≤ 200
  · skip
    have p0 : decide ((l0.length : Int) > 200) = false := decide_eq_false (by omega)
    have p1 : decide (l0.length > 200) = false := decide_eq_false (by omega)
    have p2 : decide (200 < l0.length) = false := decide_eq_false (by omega)
    by_cases h1 : 1 ≤ l0.length
    · have s0 : decide ((l0.length : Int) < 1) = false := decide_eq_false (by omega)
      have s1 : decide (l0.length < 1) = false := decide_eq_false (by omega)
      have s2 : (l0.length = 0) = False := eq_false (by omega)
      have s3 : ((l0.length : Int) < 1) = False := eq_false (by omega)
      have s4 : (l0.length < 1) = False := eq_false (by omega)
      go_enter Try.func7, Try.ntmps7
      go_wp2_with (first | (go_at_call 9; (with_reducible refine (awake_true _).mono ?_); rintro e wa ⟨rfl, hb⟩; have HB := hidH hb; clear hb) | (go_at_call 11; (with_reducible refine (HSt.new 0 w _ HB.out).mono ?_); rintro e w1 ⟨rfl, h1, h2⟩; have H1 := hidH h1; clear h1 h2))
      go_loopg [5] l0.length (fun kq v5 wr => ∃ (i : Nat) (r : Option Nat), Hid (kq = l0.length - i) ∧ v5 = .int .i64 (i : Int) ∧ i ≤ l0.length ∧ Hid (HSt w wr wa.heap.size r 0 (l0.take i)))
      case atStart => exact ⟨0, none, hidH rfl, rfl, by omega, H1⟩
      case round =>
        obtain ⟨i, r, HI, rfl, hi, HH⟩ := hrel
        by_cases hlt : i < l0.length
        · skip
          have t1 : decide ((i : Int) < (l0.length : Int)) = true := decide_eq_true (by omega)
          have t1n : decide (i < l0.length) = true := decide_eq_true (by omega)
          have q1 : ((i : Int) < (l0.length : Int)) = True := eq_true (by omega)
          have q2 : ((0 : Int) ≤ (i : Int)) = True := eq_true (by omega)
          have q3 : (i < l0.length) = True := eq_true (by omega)
          obtain ⟨ad, e1, x0, x1, x2⟩ := at_C (Kd.C_below HR0.out HH.out.2) i hlt
          cases e1
          have hl1 : (l0.take i).length ≤ 100000 := by rw [List.length_take]; omega
          go_wp2_with (go_at_call 12; (with_reducible refine (HSt.put w wa.heap.size r 0 (l0.take i) l0[i] _ hl1 HH.out).mono ?_); rintro e w2 ⟨rfl, r', h1, h2⟩; have H2 := hidH h1; clear h1 h2)
          go_roundg (l0.length - (i + 1))
          case measure => have := HI.out; omega
          case rel => exact ⟨i + 1, r', hidH rfl, by go_num, by omega, hidH (by have := H2.out; rwa [← List.take_succ_eq_append_getElem hlt] at this)⟩
        · skip
          have t1 : decide ((i : Int) < (l0.length : Int)) = false := decide_eq_false (by omega)
          have t1n : decide (i < l0.length) = false := decide_eq_false (by omega)
          have HH2 : Hid (HSt w wr wa.heap.size r 0 l0) := hidH (by have := HH.out; rwa [List.take_of_length_le (by omega)] at this)
          obtain ⟨n, hn⟩ : ∃ n, n = leastB l0 := ⟨_, rfl⟩
          have HN := hidH hn
          have hml : l0.length ≤ 200000 := by omega
          have hmm : l0.length ≤ 100000 := by omega
          have hpos : 0 < l0.length := by omega
          have hls := HSt.least w wa.heap.size r 0 l0 wr hml HH2.out
          rw [← hn] at hls
          have HLS := hidH hls
          clear hls hn
          go_wp2_with (first | (go_at_call 17; (with_reducible refine HLS.out.mono ?_); rintro e w3 ⟨rfl, hb⟩; have H3 := hidH (HH2.out.below hb); clear hb) |
            (go_at_call 13; (with_reducible refine (HSt.take_cons w wa.heap.size r 0 l0 _ hpos hmm H3.out).mono ?_); rintro e w4 ⟨x, t, rfl, hp, hm, h1, h2⟩; have HXL := hidH (least_of hp hm); have H4 := hidH (h1.below (below_alloc (Below.refl _ _) (.cells #[.int .i64 x.f0, .int .i64 x.f1, .int .i64 x.f2] 23))); have HX4 := hidH (blk_new w4 (.cells #[.int .i64 x.f0, .int .i64 x.f1, .int .i64 x.f2] 23)); clear hp hm h1 h2))
          go_loopg [9] l0.length (fun kq v9 wr => ∃ (i : Nat), Hid (kq = l0.length - i) ∧ v9 = .int .i64 (i : Int) ∧ i ≤ l0.length ∧ Hid (Below (w4.alloc (.cells #[.int .i64 x.f0, .int .i64 x.f1, .int .i64 x.f2] 23)).heap.size (w4.alloc (.cells #[.int .i64 x.f0, .int .i64 x.f1, .int .i64 x.f2] 23)) wr))
          case atStart => exact ⟨0, hidH rfl, rfl, by omega, hidH (Below.refl _ _)⟩
          case round =>
            obtain ⟨j, HJ, rfl, hj, HB4⟩ := hrel
            have HB5 := hidH (below_step H4.out.2 HB4.out)
            obtain ⟨y0, y1, y2, -⟩ := zqz3 (blk_below HX4.out HB4.out)
            clear t1 t1n
            by_cases hjt : j < l0.length
            · skip
              have t1 : decide ((j : Int) < (l0.length : Int)) = true := decide_eq_true (by omega)
              have t1n : decide (j < l0.length) = true := decide_eq_true (by omega)
              have q1 : ((j : Int) < (l0.length : Int)) = True := eq_true (by omega)
              have q2 : ((0 : Int) ≤ (j : Int)) = True := eq_true (by omega)
              have q3 : (j < l0.length) = True := eq_true (by omega)
              obtain ⟨ad, e1, x0, x1, x2⟩ := at_C (Kd.C_below HR0.out HB5.out) j hjt
              cases e1
              have hge : n ≤ l0[j].f0 := by rw [HN.out]; exact (leastB_spec (fun e => by rw [e] at hjt; exact absurd hjt (Nat.not_lt_zero _))).2 _ (List.getElem_mem hjt)
              have g1 : decide (l0[j].f0 < n) = false := decide_eq_false (by omega)
              have g2 : (l0[j].f0 < n) = False := eq_false (by omega)
              go_wp2
              go_roundg (l0.length - (j + 1))
              case measure => have := HJ.out; omega
              case rel => exact ⟨j + 1, hidH rfl, by go_num, by omega, HB4⟩
            · skip
              have t1 : decide ((j : Int) < (l0.length : Int)) = false := decide_eq_false (by omega)
              have t1n : decide (j < l0.length) = false := decide_eq_false (by omega)
              have hxn : x.f0 = n := by rw [HXL.out, HN.out]
              have g1 : (x.f0 == n) = true := beq_iff_eq.2 hxn
              have g2 : decide (x.f0 = n) = true := decide_eq_true hxn
              have g3 : (x.f0 = n) = True := eq_true hxn
              go_wp2
              go_ret
              exact ⟨by first | rfl | simp [*], HB5.out⟩
    · have s0 : decide ((l0.length : Int) < 1) = true := decide_eq_true (by omega)
      have s1 : decide (l0.length < 1) = true := decide_eq_true (by omega)
      have s2 : l0.length = 0 := by omega
      go_enter Try.func7, Try.ntmps7
      go_wp2_with (first | (go_at_call 9; (with_reducible refine (awake_true _).mono ?_); rintro e wa ⟨rfl, hb⟩; have HB := hidH hb; clear hb) | (go_at_call 11; (with_reducible refine (HSt.new 0 w _ HB.out).mono ?_); rintro e w1 ⟨rfl, h1, h2⟩; have H1 := hidH h1; clear h1 h2))
      go_ret
      exact ⟨rfl, H1.out.2⟩
  · skip
    have p0 : decide ((l0.length : Int) > 200) = true := decide_eq_true (by omega)
    have p1 : decide (l0.length > 200) = true := decide_eq_true (by omega)
    have p2 : decide (200 < l0.length) = true := decide_eq_true (by omega)
    have s0 : decide ((l0.length : Int) < 1) = false := decide_eq_false (by omega)
    have s1 : decide (l0.length < 1) = false := decide_eq_false (by omega)
    have s2 : (l0.length = 0) = False := eq_false (by omega)
    go_enter Try.func7, Try.ntmps7
    go_wp2_with (first | (go_at_call 9; (with_reducible refine (awake_true _).mono ?_); rintro e wa ⟨rfl, hb⟩; have HB := hidH hb; clear hb) | (go_at_call 11; (with_reducible refine (HSt.new 0 w _ HB.out).mono ?_); rintro e w1 ⟨rfl, h1, h2⟩; have H1 := hidH h1; clear h1 h2))
    go_ret
    exact ⟨rfl, H1.out.2⟩
def haulierlaw03_HeapLeast.f (_l0 : List S23) : Option Bool := some true
theorem haulierlaw03_HeapLeast.calls (A0 : Option Addr) (c0 : Nat) (l0 : List S23) (r : Bool) (w : World) (hr0 : Kd.C k23 w A0 l0.length l0) (hc0 : l0.length ≤ c0) (h : haulierlaw03_HeapLeast.f l0 = some r) :
    Calls Try.prog 7 #[.slice A0 l0.length c0] w fun e w' => e = .returned (.bool r) ∧ Below w.heap.size w w' := by
  obtain rfl := Option.some.inj h
  exact least_law A0 c0 l0 w hr0

/-! ### haulierlaw03_HeapDrains: function 6, BY HAND -/
theorem HSt.least_nil (w0 : World) (g : Nat) (r : Option Nat) (o : Int) (w : World) (h : HSt w0 w g r o []) : Calls Try.prog 17 #[.pointer (some ⟨g, 0, none⟩)] w fun e w' => e = .returned (.int .i64 1152921504606846976) ∧ Below w.heap.size w w' :=
  HSt.least w0 g r o [] w (Nat.zero_le _) h
set_option maxHeartbeats 2000000 in
theorem drains_law (a0 : Int) (A1 : Option Addr) (c1 : Nat) (l1 : List S23) (one : S23) (w : World) (hr1 : Kd.C k23 w A1 l1.length l1) : Calls Try.prog 6 #[.int .i64 a0, .slice A1 l1.length c1, .agg #[.int .i64 one.f0, .int .i64 one.f1, .int .i64 one.f2]] w fun e w' => e = .returned (.bool true) ∧ Below w.heap.size w w' := by
  have HR0 := hidH hr1
  have hmax0 := Kd.C_max hr1
  clear hr1
  have HBW := hidH (below_alloc (Below.refl _ w) (.cells #[.int .i64 one.f0, .int .i64 one.f1, .int .i64 one.f2] 23))
  have HX0 := hidH (blk_new w (.cells #[.int .i64 one.f0, .int .i64 one.f1, .int .i64 one.f2] 23))
  by_cases h60 : l1.length ≤ 200
  · skip
    have p0 : decide ((l1.length : Int) > 200) = false := decide_eq_false (by omega)
    have p1 : decide (l1.length > 200) = false := decide_eq_false (by omega)
    have p2 : decide (200 < l1.length) = false := decide_eq_false (by omega)
    go_enter Try.func6, Try.ntmps6
    go_wp2_with (first | (go_at_call 9; (with_reducible refine (awake_true _).mono ?_); rintro e wa ⟨rfl, hb⟩; have HB := hidH (below_step HBW.out hb); have HX := hidH (blk_below HX0.out hb); have HBX := hidH (blk_lt (blk_below HX0.out hb)); clear hb) | (go_at_call 11; (with_reducible refine (HSt.new a0 wa wa (Below.refl _ _)).mono ?_); rintro e w1 ⟨rfl, h1, h2⟩; have H1 := hidH h1; clear h1 h2))
    go_loopg [9, 10] l1.length (fun kq v9 v10 wr => ∃ (i n : Nat) (r : Option Nat), Hid (kq = l1.length - i) ∧ v9 = .int .i64 (n : Int) ∧ v10 = .int .i64 (i : Int) ∧ i ≤ l1.length ∧ Hid (n = (l1.take i).countP (fun y => eqE y one)) ∧ Hid (HSt wa wr wa.heap.size r a0 (l1.take i)))
    case atStart => exact ⟨0, 0, none, hidH rfl, rfl, rfl, by omega, hidH rfl, H1⟩
    case round =>
      obtain ⟨i, n, r, HI, rfl, rfl, hi, HN, HH⟩ := hrel
      have hn200 : n ≤ 200 := by rw [HN.out]; refine Nat.le_trans List.countP_le_length ?_; rw [List.length_take]; omega
      by_cases hlt : i < l1.length
      · skip
        have t1 : decide ((i : Int) < (l1.length : Int)) = true := decide_eq_true (by omega)
        have t1n : decide (i < l1.length) = true := decide_eq_true (by omega)
        have q1 : ((i : Int) < (l1.length : Int)) = True := eq_true (by omega)
        have q2 : ((0 : Int) ≤ (i : Int)) = True := eq_true (by omega)
        have q3 : (i < l1.length) = True := eq_true (by omega)
        have hl1 : (l1.take i).length ≤ 100000 := by rw [List.length_take]; omega
        obtain ⟨ad, e1, x0, x1, x2⟩ := at_C (Kd.C_below HR0.out (below_step HB.out HH.out.2)) i hlt
        cases e1
        rcases eqc l1[i] one with c | c | c | c
        · skip
          have he := c.1
          obtain ⟨c0, c1, c2⟩ := c.2
          go_wp2_with ((go_at_call 12; (with_reducible refine (HSt.put wa wa.heap.size r a0 (l1.take i) l1[i] _ hl1 HH.out).mono ?_); rintro e w2 ⟨rfl, r', h1, h2⟩; have H2 := hidH h1; have HF2 := hidH h2; skip; clear h1 h2))
          obtain ⟨ad', e2, z0, z1, z2⟩ := at_C (Kd.C_below HR0.out (below_step HB.out H2.out.2)) i hlt
          obtain rfl := Option.some.inj e2
          obtain ⟨b0, b1, b2, -⟩ := zqz3 ((H2.out.2.block _ HBX.out).trans HX.out)
          refine start_ (n := 6) (S := fun w' => w'.cell? (ad.add (i * 3)) = some (.int .i64 l1[i].f0) ∧ w'.cell? ⟨(ad.add (i * 3)).block, (ad.add (i * 3)).off + 1, none⟩ = some (.int .i64 l1[i].f1) ∧ w'.cell? ⟨(ad.add (i * 3)).block, (ad.add (i * 3)).off + 2, none⟩ = some (.int .i64 l1[i].f2) ∧ w'.cell? ⟨w.heap.size, 0, none⟩ = some (.int .i64 one.f0) ∧ w'.cell? ⟨w.heap.size, 1, none⟩ = some (.int .i64 one.f1) ∧ w'.cell? ⟨w.heap.size, 2, none⟩ = some (.int .i64 one.f2)) (ds := []) (zqB 6 0) (by kernel_rfl) rfl rfl (⟨pw_cell_below (below_drew1 (Below.refl _ _)) z0, pw_cell_below (below_drew1 (Below.refl _ _)) z1, pw_cell_below (below_drew1 (Below.refl _ _)) z2, pw_cell_below (below_drew1 (Below.refl _ _)) b0, pw_cell_below (below_drew1 (Below.refl _ _)) b1, pw_cell_below (below_drew1 (Below.refl _ _)) b2⟩) (fun hHeld => ?_)
          refine zqp 0 (some 48) (zqB 6 1) (by kernel_rfl) (h := ?_)
          refine zqp 1 (some 49) (zqB 6 3) (by kernel_rfl) (h := ?_)
          refine zqp 2 (some 50) (zqB 6 7) (by kernel_rfl) (h := ?_)
          refine zqt 3 (some 51) (zqB 6 15) (by kernel_rfl) hHeld (h := ?_)
          refine zqt 4 (some 52) (zqB 6 31) (by kernel_rfl) hHeld (h := ?_)
          refine zqp 5 (some 53) (zqB 6 63) (by kernel_rfl) (h := ?_)
          refine done_ (by kernel_rfl) ?_
          go_wp2
          go_roundg (l1.length - (i + 1))
          case measure => have := HI.out; omega
          case rel => exact ⟨i + 1, n + 1, r', hidH rfl, by go_num, by go_num, by omega, hidH (by rw [HN.out, List.take_succ_eq_append_getElem hlt, List.countP_append, List.countP_singleton, he]; rfl), hidH (by have h_ := H2.out.below (below_drew1 (Below.refl _ _)); rwa [← List.take_succ_eq_append_getElem hlt] at h_)⟩
        · skip
          have he := c.1
          obtain c0 := c.2
          go_wp2_with ((go_at_call 12; (with_reducible refine (HSt.put wa wa.heap.size r a0 (l1.take i) l1[i] _ hl1 HH.out).mono ?_); rintro e w2 ⟨rfl, r', h1, h2⟩; have H2 := hidH h1; have HF2 := hidH h2; skip; clear h1 h2))
          obtain ⟨ad', e2, z0, z1, z2⟩ := at_C (Kd.C_below HR0.out (below_step HB.out H2.out.2)) i hlt
          obtain rfl := Option.some.inj e2
          obtain ⟨b0, b1, b2, -⟩ := zqz3 ((H2.out.2.block _ HBX.out).trans HX.out)
          refine start_ (n := 6) (S := fun w' => w'.cell? (ad.add (i * 3)) = some (.int .i64 l1[i].f0) ∧ w'.cell? ⟨(ad.add (i * 3)).block, (ad.add (i * 3)).off + 1, none⟩ = some (.int .i64 l1[i].f1) ∧ w'.cell? ⟨(ad.add (i * 3)).block, (ad.add (i * 3)).off + 2, none⟩ = some (.int .i64 l1[i].f2) ∧ w'.cell? ⟨w.heap.size, 0, none⟩ = some (.int .i64 one.f0) ∧ w'.cell? ⟨w.heap.size, 1, none⟩ = some (.int .i64 one.f1) ∧ w'.cell? ⟨w.heap.size, 2, none⟩ = some (.int .i64 one.f2)) (ds := []) (zqB 6 0) (by kernel_rfl) rfl rfl (⟨pw_cell_below (below_drew1 (Below.refl _ _)) z0, pw_cell_below (below_drew1 (Below.refl _ _)) z1, pw_cell_below (below_drew1 (Below.refl _ _)) z2, pw_cell_below (below_drew1 (Below.refl _ _)) b0, pw_cell_below (below_drew1 (Below.refl _ _)) b1, pw_cell_below (below_drew1 (Below.refl _ _)) b2⟩) (fun hHeld => ?_)
          refine zqp 0 (some 48) (zqB 6 1) (by kernel_rfl) (h := ?_)
          refine zqp 1 (some 49) (zqB 6 3) (by kernel_rfl) (h := ?_)
          refine zqp 2 (some 50) (zqB 6 7) (by kernel_rfl) (h := ?_)
          refine zqt 3 (some 51) (zqB 6 15) (by kernel_rfl) hHeld (h := ?_)
          refine zqt 4 (some 52) (zqB 6 31) (by kernel_rfl) hHeld (h := ?_)
          refine zqp 5 (some 53) (zqB 6 63) (by kernel_rfl) (h := ?_)
          refine done_ (by kernel_rfl) ?_
          go_wp2
          go_roundg (l1.length - (i + 1))
          case measure => have := HI.out; omega
          case rel => exact ⟨i + 1, n, r', hidH rfl, by go_num, by go_num, by omega, hidH (by rw [HN.out, List.take_succ_eq_append_getElem hlt, List.countP_append, List.countP_singleton, he]; rfl), hidH (by have h_ := H2.out.below (below_drew1 (Below.refl _ _)); rwa [← List.take_succ_eq_append_getElem hlt] at h_)⟩
        · skip
          have he := c.1
          obtain ⟨c0, c1⟩ := c.2
          go_wp2_with ((go_at_call 12; (with_reducible refine (HSt.put wa wa.heap.size r a0 (l1.take i) l1[i] _ hl1 HH.out).mono ?_); rintro e w2 ⟨rfl, r', h1, h2⟩; have H2 := hidH h1; have HF2 := hidH h2; skip; clear h1 h2))
          obtain ⟨ad', e2, z0, z1, z2⟩ := at_C (Kd.C_below HR0.out (below_step HB.out H2.out.2)) i hlt
          obtain rfl := Option.some.inj e2
          obtain ⟨b0, b1, b2, -⟩ := zqz3 ((H2.out.2.block _ HBX.out).trans HX.out)
          refine start_ (n := 6) (S := fun w' => w'.cell? (ad.add (i * 3)) = some (.int .i64 l1[i].f0) ∧ w'.cell? ⟨(ad.add (i * 3)).block, (ad.add (i * 3)).off + 1, none⟩ = some (.int .i64 l1[i].f1) ∧ w'.cell? ⟨(ad.add (i * 3)).block, (ad.add (i * 3)).off + 2, none⟩ = some (.int .i64 l1[i].f2) ∧ w'.cell? ⟨w.heap.size, 0, none⟩ = some (.int .i64 one.f0) ∧ w'.cell? ⟨w.heap.size, 1, none⟩ = some (.int .i64 one.f1) ∧ w'.cell? ⟨w.heap.size, 2, none⟩ = some (.int .i64 one.f2)) (ds := []) (zqB 6 0) (by kernel_rfl) rfl rfl (⟨pw_cell_below (below_drew1 (Below.refl _ _)) z0, pw_cell_below (below_drew1 (Below.refl _ _)) z1, pw_cell_below (below_drew1 (Below.refl _ _)) z2, pw_cell_below (below_drew1 (Below.refl _ _)) b0, pw_cell_below (below_drew1 (Below.refl _ _)) b1, pw_cell_below (below_drew1 (Below.refl _ _)) b2⟩) (fun hHeld => ?_)
          refine zqp 0 (some 48) (zqB 6 1) (by kernel_rfl) (h := ?_)
          refine zqp 1 (some 49) (zqB 6 3) (by kernel_rfl) (h := ?_)
          refine zqp 2 (some 50) (zqB 6 7) (by kernel_rfl) (h := ?_)
          refine zqt 3 (some 51) (zqB 6 15) (by kernel_rfl) hHeld (h := ?_)
          refine zqt 4 (some 52) (zqB 6 31) (by kernel_rfl) hHeld (h := ?_)
          refine zqp 5 (some 53) (zqB 6 63) (by kernel_rfl) (h := ?_)
          refine done_ (by kernel_rfl) ?_
          go_wp2
          go_roundg (l1.length - (i + 1))
          case measure => have := HI.out; omega
          case rel => exact ⟨i + 1, n, r', hidH rfl, by go_num, by go_num, by omega, hidH (by rw [HN.out, List.take_succ_eq_append_getElem hlt, List.countP_append, List.countP_singleton, he]; rfl), hidH (by have h_ := H2.out.below (below_drew1 (Below.refl _ _)); rwa [← List.take_succ_eq_append_getElem hlt] at h_)⟩
        · skip
          have he := c.1
          obtain ⟨c0, c1, c2⟩ := c.2
          go_wp2_with ((go_at_call 12; (with_reducible refine (HSt.put wa wa.heap.size r a0 (l1.take i) l1[i] _ hl1 HH.out).mono ?_); rintro e w2 ⟨rfl, r', h1, h2⟩; have H2 := hidH h1; have HF2 := hidH h2; skip; clear h1 h2))
          obtain ⟨ad', e2, z0, z1, z2⟩ := at_C (Kd.C_below HR0.out (below_step HB.out H2.out.2)) i hlt
          obtain rfl := Option.some.inj e2
          obtain ⟨b0, b1, b2, -⟩ := zqz3 ((H2.out.2.block _ HBX.out).trans HX.out)
          refine start_ (n := 6) (S := fun w' => w'.cell? (ad.add (i * 3)) = some (.int .i64 l1[i].f0) ∧ w'.cell? ⟨(ad.add (i * 3)).block, (ad.add (i * 3)).off + 1, none⟩ = some (.int .i64 l1[i].f1) ∧ w'.cell? ⟨(ad.add (i * 3)).block, (ad.add (i * 3)).off + 2, none⟩ = some (.int .i64 l1[i].f2) ∧ w'.cell? ⟨w.heap.size, 0, none⟩ = some (.int .i64 one.f0) ∧ w'.cell? ⟨w.heap.size, 1, none⟩ = some (.int .i64 one.f1) ∧ w'.cell? ⟨w.heap.size, 2, none⟩ = some (.int .i64 one.f2)) (ds := []) (zqB 6 0) (by kernel_rfl) rfl rfl (⟨pw_cell_below (below_drew1 (Below.refl _ _)) z0, pw_cell_below (below_drew1 (Below.refl _ _)) z1, pw_cell_below (below_drew1 (Below.refl _ _)) z2, pw_cell_below (below_drew1 (Below.refl _ _)) b0, pw_cell_below (below_drew1 (Below.refl _ _)) b1, pw_cell_below (below_drew1 (Below.refl _ _)) b2⟩) (fun hHeld => ?_)
          refine zqp 0 (some 48) (zqB 6 1) (by kernel_rfl) (h := ?_)
          refine zqp 1 (some 49) (zqB 6 3) (by kernel_rfl) (h := ?_)
          refine zqp 2 (some 50) (zqB 6 7) (by kernel_rfl) (h := ?_)
          refine zqt 3 (some 51) (zqB 6 15) (by kernel_rfl) hHeld (h := ?_)
          refine zqt 4 (some 52) (zqB 6 31) (by kernel_rfl) hHeld (h := ?_)
          refine zqp 5 (some 53) (zqB 6 63) (by kernel_rfl) (h := ?_)
          refine done_ (by kernel_rfl) ?_
          go_wp2
          go_roundg (l1.length - (i + 1))
          case measure => have := HI.out; omega
          case rel => exact ⟨i + 1, n, r', hidH rfl, by go_num, by go_num, by omega, hidH (by rw [HN.out, List.take_succ_eq_append_getElem hlt, List.countP_append, List.countP_singleton, he]; rfl), hidH (by have h_ := H2.out.below (below_drew1 (Below.refl _ _)); rwa [← List.take_succ_eq_append_getElem hlt] at h_)⟩
      · skip
        have t1 : decide ((i : Int) < (l1.length : Int)) = false := decide_eq_false (by omega)
        have t1n : decide (i < l1.length) = false := decide_eq_false (by omega)
        have HH1 : Hid (HSt wa wr wa.heap.size r a0 l1) := hidH (by have := HH.out; rwa [List.take_of_length_le (by omega)] at this)
        have HN1 : Hid (n = l1.countP (fun y => eqE y one)) := hidH (by have := HN.out; rwa [List.take_of_length_le (by omega)] at this)
        obtain ⟨BL, hBL⟩ : ∃ BL, BL = wr.heap.size := ⟨_, rfl⟩
        have HL0 := hidH (show (wr.alloc (.cells #[.int .i64 0, .int .i64 0, .int .i64 0] 23)).heap[BL]? = some (.cells #[.int .i64 0, .int .i64 0, .int .i64 0] 23 (0, 0)) by rw [hBL]; exact blk_new _ _)
        have hg_ := HH1.out.lt
        have HSP := hidH (show wa.heap.size ≤ BL ∧ wa.heap.size ≠ BL ∧ r ≠ some BL from ⟨by rw [hBL]; exact HH1.out.2.size, by rw [hBL]; omega, fun e => by have := hg_.2 BL e; omega⟩)
        have HH2 := hidH (HH1.out.below (below_alloc (Below.refl _ _) (.cells #[.int .i64 0, .int .i64 0, .int .i64 0] 23)))
        clear hg_ HH HI
        go_wp2
        rw [← hBL]
        go_loopg [9, 12] l1.length (fun kq v9 v12 wr => ∃ (j n : Nat) (t : List S23) (L : S23), Hid (kq = l1.length - j) ∧ v9 = .int .i64 (n : Int) ∧ v12 = .int .i64 (j : Int) ∧ j + t.length = l1.length ∧ Hid (n = t.countP (fun y => eqE y one)) ∧ Hid (HSt wa wr wa.heap.size r a0 t) ∧ Hid (wr.heap[BL]? = some (.cells #[.int .i64 L.f0, .int .i64 L.f1, .int .i64 L.f2] 23 (0, 0))) ∧ Hid (0 < j → ∀ y ∈ t, lessE a0 y L = false))
        case atStart => exact ⟨0, n, l1, ⟨0, 0, 0⟩, hidH rfl, rfl, rfl, by omega, HN1, HH2, HL0, hidH (fun h => absurd h (Nat.lt_irrefl _))⟩
        case round =>
          clear HN1 HH1 HH2 HL0 hBL HN hn200 hi hlt t1 t1n
          obtain ⟨j, n, t, L, HJ, rfl, rfl, hj, HN, HH, HXL, HMIN⟩ := hrel
          by_cases hjt : j < l1.length
          · obtain ⟨x, t', hp, hm⟩ := exists_least a0 t (fun e => by rw [e, List.length_nil] at hj; omega)
            have hlt' := hp.length_eq
            rw [List.length_cons] at hlt'
            have hcnt := hp.countP_eq (fun y => eqE y one)
            rw [List.countP_cons] at hcnt
            have HP := hidH hp
            have HM := hidH hm
            have hcl : t'.countP (fun y => eqE y one) ≤ 200 := Nat.le_trans List.countP_le_length (by omega)
            obtain ⟨n2, hn2⟩ : ∃ n2, n2 = t'.countP (fun y => eqE y one) := ⟨_, rfl⟩
            rw [← hn2] at hcnt hcl
            have HN2 := hidH hn2
            have hl2 : t.length ≤ 100000 := by omega
            clear hn2 hp hm
            rcases eqc x one with c | c | c | c
            · have he := c.1
              obtain ⟨c0, c1, c2⟩ := c.2
              have hnn : n = n2 + 1 := by rw [HN.out, hcnt, he]; rfl
              subst hnn
              clear hcnt he
              by_cases hz : j = 0
              · have hj0 : j = 0 := hz
                subst hj0
                go_wp2_with (first | (go_at_call 13; (with_reducible refine (HSt.take_known wa wa.heap.size r a0 t x t' _ hl2 HH.out HP.out HM.out).mono ?_); rintro e w4 ⟨rfl, h1, h2⟩; have H4 := hidH (h1.below (below_alloc (Below.refl _ _) (.cells #[.int .i64 x.f0, .int .i64 x.f1, .int .i64 x.f2] 23))); have HXE4 := hidH (blk_new w4 (.cells #[.int .i64 x.f0, .int .i64 x.f1, .int .i64 x.f2] 23)); have HXL4 := hidH (blk_alloc ((h2.block BL (blk_lt HXL.out) HSP.out.2.1.symm (fun e => HSP.out.2.2 e.symm)).trans HXL.out) (.cells #[.int .i64 x.f0, .int .i64 x.f1, .int .i64 x.f2] 23)); have HXB4 := hidH (blk_alloc ((h1.2.block _ HBX.out).trans HX.out) (.cells #[.int .i64 x.f0, .int .i64 x.f1, .int .i64 x.f2] 23)); obtain ⟨k0, k1, k2, -⟩ := zqz3 HXL4.out; obtain ⟨b0, b1, b2, -⟩ := zqz3 HXB4.out; clear h1 h2) | ((with_reducible refine gate_store 23 11 84 rfl ?_); refine zqv 23 _ _ 0 3 #[.int .i64 x.f0, .int .i64 x.f1, .int .i64 x.f2] HXL4.out rfl rfl rfl rfl rfl rfl (by rfl) (by kernel_rfl) (by exact Nat.le_of_ble_eq_true rfl) (by rfl) ?_; intro wF hf hbel hfar; have HF := hidH hf; have HBE := hidH hbel; have HFE := hidH hfar; clear hf hbel hfar))
                go_roundg (l1.length - (0 + 1))
                case measure => have := HJ.out; omega
                case rel => exact ⟨0 + 1, n2, t', x, hidH rfl, by go_num, by go_num, by omega, HN2, hidH (H4.out.far HBE.out HFE.out HSP.out.1 HSP.out.2.1 HSP.out.2.2), HF, hidH (fun _ y hy => HM.out y (HP.out.mem_iff.2 (List.mem_cons_of_mem _ hy)))⟩
              · have HLS := hidH (HMIN.out (by omega) x (HP.out.mem_iff.2 List.mem_cons_self))
                have g0 : decide ((j : Int) > 0) = true := decide_eq_true (by omega)
                have g1 : decide (j > 0) = true := decide_eq_true (by omega)
                have g2 : decide (0 < j) = true := decide_eq_true (by omega)
                go_wp2_with (first | (go_at_call 13; (with_reducible refine (HSt.take_known wa wa.heap.size r a0 t x t' _ hl2 HH.out HP.out HM.out).mono ?_); rintro e w4 ⟨rfl, h1, h2⟩; have H4 := hidH (h1.below (below_alloc (Below.refl _ _) (.cells #[.int .i64 x.f0, .int .i64 x.f1, .int .i64 x.f2] 23))); have HXE4 := hidH (blk_new w4 (.cells #[.int .i64 x.f0, .int .i64 x.f1, .int .i64 x.f2] 23)); have HXL4 := hidH (blk_alloc ((h2.block BL (blk_lt HXL.out) HSP.out.2.1.symm (fun e => HSP.out.2.2 e.symm)).trans HXL.out) (.cells #[.int .i64 x.f0, .int .i64 x.f1, .int .i64 x.f2] 23)); have HXB4 := hidH (blk_alloc ((h1.2.block _ HBX.out).trans HX.out) (.cells #[.int .i64 x.f0, .int .i64 x.f1, .int .i64 x.f2] 23)); obtain ⟨k0, k1, k2, -⟩ := zqz3 HXL4.out; obtain ⟨b0, b1, b2, -⟩ := zqz3 HXB4.out; clear h1 h2) | (go_at_call 10; (with_reducible refine (less_r HLS.out _).mono ?_); rintro e w6 ⟨rfl, hb⟩; have H6 := hidH (H4.out.below hb); have HXE6 := hidH (blk_below HXE4.out hb); have HXL6 := hidH (blk_below HXL4.out hb); have HXB6 := hidH (blk_below HXB4.out hb); obtain ⟨y0, y1, y2, -⟩ := zqz3 HXE6.out; obtain ⟨b3, b4, b5, -⟩ := zqz3 HXB6.out; clear hb) | ((with_reducible refine gate_store 23 11 84 rfl ?_); refine zqv 23 _ _ 0 3 #[.int .i64 x.f0, .int .i64 x.f1, .int .i64 x.f2] HXL6.out rfl rfl rfl rfl rfl rfl (by rfl) (by kernel_rfl) (by exact Nat.le_of_ble_eq_true rfl) (by rfl) ?_; intro wF hf hbel hfar; have HF := hidH hf; have HBE := hidH hbel; have HFE := hidH hfar; clear hf hbel hfar))
                go_roundg (l1.length - (j + 1))
                case measure => have := HJ.out; omega
                case rel => exact ⟨j + 1, n2, t', x, hidH rfl, by go_num, by go_num, by omega, HN2, hidH (H6.out.far HBE.out HFE.out HSP.out.1 HSP.out.2.1 HSP.out.2.2), HF, hidH (fun _ y hy => HM.out y (HP.out.mem_iff.2 (List.mem_cons_of_mem _ hy)))⟩
            · have he := c.1
              obtain c0 := c.2
              have hnn : n2 = n := by rw [HN.out, hcnt, he]; rfl
              subst hnn
              clear hcnt he
              by_cases hz : j = 0
              · have hj0 : j = 0 := hz
                subst hj0
                go_wp2_with (first | (go_at_call 13; (with_reducible refine (HSt.take_known wa wa.heap.size r a0 t x t' _ hl2 HH.out HP.out HM.out).mono ?_); rintro e w4 ⟨rfl, h1, h2⟩; have H4 := hidH (h1.below (below_alloc (Below.refl _ _) (.cells #[.int .i64 x.f0, .int .i64 x.f1, .int .i64 x.f2] 23))); have HXE4 := hidH (blk_new w4 (.cells #[.int .i64 x.f0, .int .i64 x.f1, .int .i64 x.f2] 23)); have HXL4 := hidH (blk_alloc ((h2.block BL (blk_lt HXL.out) HSP.out.2.1.symm (fun e => HSP.out.2.2 e.symm)).trans HXL.out) (.cells #[.int .i64 x.f0, .int .i64 x.f1, .int .i64 x.f2] 23)); have HXB4 := hidH (blk_alloc ((h1.2.block _ HBX.out).trans HX.out) (.cells #[.int .i64 x.f0, .int .i64 x.f1, .int .i64 x.f2] 23)); obtain ⟨k0, k1, k2, -⟩ := zqz3 HXL4.out; obtain ⟨b0, b1, b2, -⟩ := zqz3 HXB4.out; clear h1 h2) | ((with_reducible refine gate_store 23 11 84 rfl ?_); refine zqv 23 _ _ 0 3 #[.int .i64 x.f0, .int .i64 x.f1, .int .i64 x.f2] HXL4.out rfl rfl rfl rfl rfl rfl (by rfl) (by kernel_rfl) (by exact Nat.le_of_ble_eq_true rfl) (by rfl) ?_; intro wF hf hbel hfar; have HF := hidH hf; have HBE := hidH hbel; have HFE := hidH hfar; clear hf hbel hfar))
                go_roundg (l1.length - (0 + 1))
                case measure => have := HJ.out; omega
                case rel => exact ⟨0 + 1, n2, t', x, hidH rfl, by go_num, by go_num, by omega, HN2, hidH (H4.out.far HBE.out HFE.out HSP.out.1 HSP.out.2.1 HSP.out.2.2), HF, hidH (fun _ y hy => HM.out y (HP.out.mem_iff.2 (List.mem_cons_of_mem _ hy)))⟩
              · have HLS := hidH (HMIN.out (by omega) x (HP.out.mem_iff.2 List.mem_cons_self))
                have g0 : decide ((j : Int) > 0) = true := decide_eq_true (by omega)
                have g1 : decide (j > 0) = true := decide_eq_true (by omega)
                have g2 : decide (0 < j) = true := decide_eq_true (by omega)
                go_wp2_with (first | (go_at_call 13; (with_reducible refine (HSt.take_known wa wa.heap.size r a0 t x t' _ hl2 HH.out HP.out HM.out).mono ?_); rintro e w4 ⟨rfl, h1, h2⟩; have H4 := hidH (h1.below (below_alloc (Below.refl _ _) (.cells #[.int .i64 x.f0, .int .i64 x.f1, .int .i64 x.f2] 23))); have HXE4 := hidH (blk_new w4 (.cells #[.int .i64 x.f0, .int .i64 x.f1, .int .i64 x.f2] 23)); have HXL4 := hidH (blk_alloc ((h2.block BL (blk_lt HXL.out) HSP.out.2.1.symm (fun e => HSP.out.2.2 e.symm)).trans HXL.out) (.cells #[.int .i64 x.f0, .int .i64 x.f1, .int .i64 x.f2] 23)); have HXB4 := hidH (blk_alloc ((h1.2.block _ HBX.out).trans HX.out) (.cells #[.int .i64 x.f0, .int .i64 x.f1, .int .i64 x.f2] 23)); obtain ⟨k0, k1, k2, -⟩ := zqz3 HXL4.out; obtain ⟨b0, b1, b2, -⟩ := zqz3 HXB4.out; clear h1 h2) | (go_at_call 10; (with_reducible refine (less_r HLS.out _).mono ?_); rintro e w6 ⟨rfl, hb⟩; have H6 := hidH (H4.out.below hb); have HXE6 := hidH (blk_below HXE4.out hb); have HXL6 := hidH (blk_below HXL4.out hb); have HXB6 := hidH (blk_below HXB4.out hb); obtain ⟨y0, y1, y2, -⟩ := zqz3 HXE6.out; obtain ⟨b3, b4, b5, -⟩ := zqz3 HXB6.out; clear hb) | ((with_reducible refine gate_store 23 11 84 rfl ?_); refine zqv 23 _ _ 0 3 #[.int .i64 x.f0, .int .i64 x.f1, .int .i64 x.f2] HXL6.out rfl rfl rfl rfl rfl rfl (by rfl) (by kernel_rfl) (by exact Nat.le_of_ble_eq_true rfl) (by rfl) ?_; intro wF hf hbel hfar; have HF := hidH hf; have HBE := hidH hbel; have HFE := hidH hfar; clear hf hbel hfar))
                go_roundg (l1.length - (j + 1))
                case measure => have := HJ.out; omega
                case rel => exact ⟨j + 1, n2, t', x, hidH rfl, by go_num, by go_num, by omega, HN2, hidH (H6.out.far HBE.out HFE.out HSP.out.1 HSP.out.2.1 HSP.out.2.2), HF, hidH (fun _ y hy => HM.out y (HP.out.mem_iff.2 (List.mem_cons_of_mem _ hy)))⟩
            · have he := c.1
              obtain ⟨c0, c1⟩ := c.2
              have hnn : n2 = n := by rw [HN.out, hcnt, he]; rfl
              subst hnn
              clear hcnt he
              by_cases hz : j = 0
              · have hj0 : j = 0 := hz
                subst hj0
                go_wp2_with (first | (go_at_call 13; (with_reducible refine (HSt.take_known wa wa.heap.size r a0 t x t' _ hl2 HH.out HP.out HM.out).mono ?_); rintro e w4 ⟨rfl, h1, h2⟩; have H4 := hidH (h1.below (below_alloc (Below.refl _ _) (.cells #[.int .i64 x.f0, .int .i64 x.f1, .int .i64 x.f2] 23))); have HXE4 := hidH (blk_new w4 (.cells #[.int .i64 x.f0, .int .i64 x.f1, .int .i64 x.f2] 23)); have HXL4 := hidH (blk_alloc ((h2.block BL (blk_lt HXL.out) HSP.out.2.1.symm (fun e => HSP.out.2.2 e.symm)).trans HXL.out) (.cells #[.int .i64 x.f0, .int .i64 x.f1, .int .i64 x.f2] 23)); have HXB4 := hidH (blk_alloc ((h1.2.block _ HBX.out).trans HX.out) (.cells #[.int .i64 x.f0, .int .i64 x.f1, .int .i64 x.f2] 23)); obtain ⟨k0, k1, k2, -⟩ := zqz3 HXL4.out; obtain ⟨b0, b1, b2, -⟩ := zqz3 HXB4.out; clear h1 h2) | ((with_reducible refine gate_store 23 11 84 rfl ?_); refine zqv 23 _ _ 0 3 #[.int .i64 x.f0, .int .i64 x.f1, .int .i64 x.f2] HXL4.out rfl rfl rfl rfl rfl rfl (by rfl) (by kernel_rfl) (by exact Nat.le_of_ble_eq_true rfl) (by rfl) ?_; intro wF hf hbel hfar; have HF := hidH hf; have HBE := hidH hbel; have HFE := hidH hfar; clear hf hbel hfar))
                go_roundg (l1.length - (0 + 1))
                case measure => have := HJ.out; omega
                case rel => exact ⟨0 + 1, n2, t', x, hidH rfl, by go_num, by go_num, by omega, HN2, hidH (H4.out.far HBE.out HFE.out HSP.out.1 HSP.out.2.1 HSP.out.2.2), HF, hidH (fun _ y hy => HM.out y (HP.out.mem_iff.2 (List.mem_cons_of_mem _ hy)))⟩
              · have HLS := hidH (HMIN.out (by omega) x (HP.out.mem_iff.2 List.mem_cons_self))
                have g0 : decide ((j : Int) > 0) = true := decide_eq_true (by omega)
                have g1 : decide (j > 0) = true := decide_eq_true (by omega)
                have g2 : decide (0 < j) = true := decide_eq_true (by omega)
                go_wp2_with (first | (go_at_call 13; (with_reducible refine (HSt.take_known wa wa.heap.size r a0 t x t' _ hl2 HH.out HP.out HM.out).mono ?_); rintro e w4 ⟨rfl, h1, h2⟩; have H4 := hidH (h1.below (below_alloc (Below.refl _ _) (.cells #[.int .i64 x.f0, .int .i64 x.f1, .int .i64 x.f2] 23))); have HXE4 := hidH (blk_new w4 (.cells #[.int .i64 x.f0, .int .i64 x.f1, .int .i64 x.f2] 23)); have HXL4 := hidH (blk_alloc ((h2.block BL (blk_lt HXL.out) HSP.out.2.1.symm (fun e => HSP.out.2.2 e.symm)).trans HXL.out) (.cells #[.int .i64 x.f0, .int .i64 x.f1, .int .i64 x.f2] 23)); have HXB4 := hidH (blk_alloc ((h1.2.block _ HBX.out).trans HX.out) (.cells #[.int .i64 x.f0, .int .i64 x.f1, .int .i64 x.f2] 23)); obtain ⟨k0, k1, k2, -⟩ := zqz3 HXL4.out; obtain ⟨b0, b1, b2, -⟩ := zqz3 HXB4.out; clear h1 h2) | (go_at_call 10; (with_reducible refine (less_r HLS.out _).mono ?_); rintro e w6 ⟨rfl, hb⟩; have H6 := hidH (H4.out.below hb); have HXE6 := hidH (blk_below HXE4.out hb); have HXL6 := hidH (blk_below HXL4.out hb); have HXB6 := hidH (blk_below HXB4.out hb); obtain ⟨y0, y1, y2, -⟩ := zqz3 HXE6.out; obtain ⟨b3, b4, b5, -⟩ := zqz3 HXB6.out; clear hb) | ((with_reducible refine gate_store 23 11 84 rfl ?_); refine zqv 23 _ _ 0 3 #[.int .i64 x.f0, .int .i64 x.f1, .int .i64 x.f2] HXL6.out rfl rfl rfl rfl rfl rfl (by rfl) (by kernel_rfl) (by exact Nat.le_of_ble_eq_true rfl) (by rfl) ?_; intro wF hf hbel hfar; have HF := hidH hf; have HBE := hidH hbel; have HFE := hidH hfar; clear hf hbel hfar))
                go_roundg (l1.length - (j + 1))
                case measure => have := HJ.out; omega
                case rel => exact ⟨j + 1, n2, t', x, hidH rfl, by go_num, by go_num, by omega, HN2, hidH (H6.out.far HBE.out HFE.out HSP.out.1 HSP.out.2.1 HSP.out.2.2), HF, hidH (fun _ y hy => HM.out y (HP.out.mem_iff.2 (List.mem_cons_of_mem _ hy)))⟩
            · have he := c.1
              obtain ⟨c0, c1, c2⟩ := c.2
              have hnn : n2 = n := by rw [HN.out, hcnt, he]; rfl
              subst hnn
              clear hcnt he
              by_cases hz : j = 0
              · have hj0 : j = 0 := hz
                subst hj0
                go_wp2_with (first | (go_at_call 13; (with_reducible refine (HSt.take_known wa wa.heap.size r a0 t x t' _ hl2 HH.out HP.out HM.out).mono ?_); rintro e w4 ⟨rfl, h1, h2⟩; have H4 := hidH (h1.below (below_alloc (Below.refl _ _) (.cells #[.int .i64 x.f0, .int .i64 x.f1, .int .i64 x.f2] 23))); have HXE4 := hidH (blk_new w4 (.cells #[.int .i64 x.f0, .int .i64 x.f1, .int .i64 x.f2] 23)); have HXL4 := hidH (blk_alloc ((h2.block BL (blk_lt HXL.out) HSP.out.2.1.symm (fun e => HSP.out.2.2 e.symm)).trans HXL.out) (.cells #[.int .i64 x.f0, .int .i64 x.f1, .int .i64 x.f2] 23)); have HXB4 := hidH (blk_alloc ((h1.2.block _ HBX.out).trans HX.out) (.cells #[.int .i64 x.f0, .int .i64 x.f1, .int .i64 x.f2] 23)); obtain ⟨k0, k1, k2, -⟩ := zqz3 HXL4.out; obtain ⟨b0, b1, b2, -⟩ := zqz3 HXB4.out; clear h1 h2) | ((with_reducible refine gate_store 23 11 84 rfl ?_); refine zqv 23 _ _ 0 3 #[.int .i64 x.f0, .int .i64 x.f1, .int .i64 x.f2] HXL4.out rfl rfl rfl rfl rfl rfl (by rfl) (by kernel_rfl) (by exact Nat.le_of_ble_eq_true rfl) (by rfl) ?_; intro wF hf hbel hfar; have HF := hidH hf; have HBE := hidH hbel; have HFE := hidH hfar; clear hf hbel hfar))
                go_roundg (l1.length - (0 + 1))
                case measure => have := HJ.out; omega
                case rel => exact ⟨0 + 1, n2, t', x, hidH rfl, by go_num, by go_num, by omega, HN2, hidH (H4.out.far HBE.out HFE.out HSP.out.1 HSP.out.2.1 HSP.out.2.2), HF, hidH (fun _ y hy => HM.out y (HP.out.mem_iff.2 (List.mem_cons_of_mem _ hy)))⟩
              · have HLS := hidH (HMIN.out (by omega) x (HP.out.mem_iff.2 List.mem_cons_self))
                have g0 : decide ((j : Int) > 0) = true := decide_eq_true (by omega)
                have g1 : decide (j > 0) = true := decide_eq_true (by omega)
                have g2 : decide (0 < j) = true := decide_eq_true (by omega)
                go_wp2_with (first | (go_at_call 13; (with_reducible refine (HSt.take_known wa wa.heap.size r a0 t x t' _ hl2 HH.out HP.out HM.out).mono ?_); rintro e w4 ⟨rfl, h1, h2⟩; have H4 := hidH (h1.below (below_alloc (Below.refl _ _) (.cells #[.int .i64 x.f0, .int .i64 x.f1, .int .i64 x.f2] 23))); have HXE4 := hidH (blk_new w4 (.cells #[.int .i64 x.f0, .int .i64 x.f1, .int .i64 x.f2] 23)); have HXL4 := hidH (blk_alloc ((h2.block BL (blk_lt HXL.out) HSP.out.2.1.symm (fun e => HSP.out.2.2 e.symm)).trans HXL.out) (.cells #[.int .i64 x.f0, .int .i64 x.f1, .int .i64 x.f2] 23)); have HXB4 := hidH (blk_alloc ((h1.2.block _ HBX.out).trans HX.out) (.cells #[.int .i64 x.f0, .int .i64 x.f1, .int .i64 x.f2] 23)); obtain ⟨k0, k1, k2, -⟩ := zqz3 HXL4.out; obtain ⟨b0, b1, b2, -⟩ := zqz3 HXB4.out; clear h1 h2) | (go_at_call 10; (with_reducible refine (less_r HLS.out _).mono ?_); rintro e w6 ⟨rfl, hb⟩; have H6 := hidH (H4.out.below hb); have HXE6 := hidH (blk_below HXE4.out hb); have HXL6 := hidH (blk_below HXL4.out hb); have HXB6 := hidH (blk_below HXB4.out hb); obtain ⟨y0, y1, y2, -⟩ := zqz3 HXE6.out; obtain ⟨b3, b4, b5, -⟩ := zqz3 HXB6.out; clear hb) | ((with_reducible refine gate_store 23 11 84 rfl ?_); refine zqv 23 _ _ 0 3 #[.int .i64 x.f0, .int .i64 x.f1, .int .i64 x.f2] HXL6.out rfl rfl rfl rfl rfl rfl (by rfl) (by kernel_rfl) (by exact Nat.le_of_ble_eq_true rfl) (by rfl) ?_; intro wF hf hbel hfar; have HF := hidH hf; have HBE := hidH hbel; have HFE := hidH hfar; clear hf hbel hfar))
                go_roundg (l1.length - (j + 1))
                case measure => have := HJ.out; omega
                case rel => exact ⟨j + 1, n2, t', x, hidH rfl, by go_num, by go_num, by omega, HN2, hidH (H6.out.far HBE.out HFE.out HSP.out.1 HSP.out.2.1 HSP.out.2.2), HF, hidH (fun _ y hy => HM.out y (HP.out.mem_iff.2 (List.mem_cons_of_mem _ hy)))⟩
          · have ht : t = [] := List.eq_nil_of_length_eq_zero (by omega)
            subst ht
            have hn0 : n = 0 := HN.out
            subst hn0
            have t1 : decide ((j : Int) < (l1.length : Int)) = false := decide_eq_false (by omega)
            have t1n : decide (j < l1.length) = false := decide_eq_false (by omega)
            clear HJ hj
            go_wp2_with (first | (go_at_call 13; (with_reducible refine (HSt.take_nil wa wa.heap.size r a0 _ HH.out).mono ?_); rintro e w4 ⟨rfl, h1, h2⟩; have H4 := hidH (h1.below (below_alloc (Below.refl _ _) (.cells #[.int .i64 0, .int .i64 0, .int .i64 0] 23))); clear h1 h2) |
              (go_at_call 16; (with_reducible refine (HSt.len wa wa.heap.size r a0 [] _ H4.out).mono ?_); rintro e w5 ⟨rfl, e5⟩; subst e5) |
              (go_at_call 17; (with_reducible refine (HSt.least_nil wa wa.heap.size r a0 _ H4.out).mono ?_); rintro e w6 ⟨rfl, hb⟩; have H6 := hidH (H4.out.below hb); clear hb))
            go_ret
            exact ⟨rfl, below_step HB.out H6.out.2⟩
  · skip
    have p0 : decide ((l1.length : Int) > 200) = true := decide_eq_true (by omega)
    have p1 : decide (l1.length > 200) = true := decide_eq_true (by omega)
    have p2 : decide (200 < l1.length) = true := decide_eq_true (by omega)
    go_enter Try.func6, Try.ntmps6
    go_wp2_with (first | (go_at_call 9; (with_reducible refine (awake_true _).mono ?_); rintro e wa ⟨rfl, hb⟩; have HB := hidH (below_step HBW.out hb); clear hb) | (go_at_call 11; (with_reducible refine (HSt.new a0 wa wa (Below.refl _ _)).mono ?_); rintro e w1 ⟨rfl, h1, h2⟩; have H1 := hidH h1; clear h1 h2))
    go_ret
    exact ⟨rfl, below_step HB.out H1.out.2⟩
def haulierlaw03_HeapDrains.f (_a0 : Int) (_l1 : List S23) (_a2 _b2 _c2 : Int) : Option Bool := some true
theorem haulierlaw03_HeapDrains.calls (a0 : Int) (A1 : Option Addr) (c1 : Nat) (l1 : List S23) (a2_0 a2_1 a2_2 : Int) (r : Bool) (w : World) (hr1 : Kd.C k23 w A1 l1.length l1) (hc1 : l1.length ≤ c1) (h : haulierlaw03_HeapDrains.f a0 l1 a2_0 a2_1 a2_2 = some r) :
    Calls Try.prog 6 #[.int .i64 a0, .slice A1 l1.length c1, .agg #[.int .i64 a2_0, .int .i64 a2_1, .int .i64 a2_2]] w fun e w' => e = .returned (.bool r) ∧ Below w.heap.size w w' := by
  obtain rfl := Option.some.inj h
  exact drains_law a0 A1 c1 l1 ⟨a2_0, a2_1, a2_2⟩ w hr1

end Go.Proofs.Ytjlfejgblhgceaa.PB
