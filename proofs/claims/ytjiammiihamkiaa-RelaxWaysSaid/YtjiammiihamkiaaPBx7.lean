-- Printed for this claim by wip/tools/xprint.py over the kit's print; the contracts marked BY HAND are this session's own.
import Derived.Test.YtjiammiihamkiaaPBx0
import Derived.Test.YtjiammiihamkiaaPBx1
import Derived.Test.YtjiammiihamkiaaPBx6
namespace Go.Proofs.Ytjiammiihamkiaa.PB
open Go.RowKit Go.Proofs.YtjiammiihamkiaaW.PrintWords Go.Proofs.YtjiammiihamkiaaW.PrintLast Go.Proofs.YtjiammiihamkiaaW.PrintMore
attribute [local go_sem] max2_int min2_int max_two min_two max_three min_three max_four min_four   -- for this text's walks alone
set_option linter.unusedVariables false
set_option linter.unusedSimpArgs false

attribute [local go_sem high] eqA40
/-! ### relax_Join: function 35, BY HAND -/
theorem hidJ {p : Prop} (h : p) : Hid p := h
theorem below_put {g : Nat} {w W : World} (h : Below g w W) (i : Nat) (u : Value) : Below g w (W.setCell ⟨g, i, none⟩ u) := h.setCell (Nat.le_refl _) u
theorem at_world {P : Program} {c : Code} {Q : Exit → Act → World → Prop} {a : Act} {w : World} (F : World → Prop) (hF : F w) (h : ∀ W, F W → c.wp P Q a W) : c.wp P Q a w := h w hF
/-- A heap's cells. -/
def HeapAt (w : World) (g : Nat) (s : S40) (m : Int) (odd : Bool) : Prop :=
  w.cell? ⟨g, 0, none⟩ = some (.int .i64 s.f0) ∧ w.cell? ⟨g, 1, none⟩ = some (.int .i64 s.f1) ∧ w.cell? ⟨g, 2, none⟩ = some (.int .i64 s.f2) ∧ w.cell? ⟨g, 3, none⟩ = some (.int .i64 s.f3) ∧ w.cell? ⟨g, 4, none⟩ = some (.int .i64 s.f4) ∧ w.cell? ⟨g, 5, none⟩ = some (.int .u64 s.f5) ∧ w.cell? ⟨g, 6, none⟩ = some (.int .u64 s.f6) ∧ w.cell? ⟨g, 7, none⟩ = some (.int .u64 s.f7) ∧ w.cell? ⟨g, 8, none⟩ = some (.int .i64 m) ∧ w.cell? ⟨g, 9, none⟩ = some (.bool odd) ∧
  (∀ i, w.frozen? ⟨g, i, none⟩ = false) ∧ g < w.heap.size
/-- While one more is thrown on: the heap's cells, and the new one's. -/
def Mid (w : World) (g b : Nat) (s0 s1 s2 s3 s4 s5 s6 s7 m : Int) (odd : Bool) (t0 t1 t2 t3 t4 t5 t6 t7 : Int) (W : World) : Prop :=
  W.cell? ⟨g, 0, none⟩ = some (.int .i64 s0) ∧ W.cell? ⟨g, 1, none⟩ = some (.int .i64 s1) ∧ W.cell? ⟨g, 2, none⟩ = some (.int .i64 s2) ∧ W.cell? ⟨g, 3, none⟩ = some (.int .i64 s3) ∧ W.cell? ⟨g, 4, none⟩ = some (.int .i64 s4) ∧ W.cell? ⟨g, 5, none⟩ = some (.int .u64 s5) ∧ W.cell? ⟨g, 6, none⟩ = some (.int .u64 s6) ∧ W.cell? ⟨g, 7, none⟩ = some (.int .u64 s7) ∧ W.cell? ⟨g, 8, none⟩ = some (.int .i64 m) ∧ W.cell? ⟨g, 9, none⟩ = some (.bool odd) ∧
  W.cell? ⟨b, 0, none⟩ = some (.int .i64 t0) ∧ W.cell? ⟨b, 1, none⟩ = some (.int .i64 t1) ∧ W.cell? ⟨b, 2, none⟩ = some (.int .i64 t2) ∧ W.cell? ⟨b, 3, none⟩ = some (.int .i64 t3) ∧ W.cell? ⟨b, 4, none⟩ = some (.int .i64 t4) ∧ W.cell? ⟨b, 5, none⟩ = some (.int .u64 t5) ∧ W.cell? ⟨b, 6, none⟩ = some (.int .u64 t6) ∧ W.cell? ⟨b, 7, none⟩ = some (.int .u64 t7) ∧
  (∀ i, W.frozen? ⟨g, i, none⟩ = false) ∧ Below g w W ∧ g < b ∧ b < W.heap.size
/-- Two states thrown together. -/
def joinS (s t : S40) : S40 := ⟨s.f0, mn s.f1 t.f1, mn s.f2 t.f2, mn s.f3 t.f3, mn s.f4 t.f4, Go.bits .and .u64 s.f5 t.f5, Go.bits .or .u64 s.f6 t.f6, Go.bits .and .u64 s.f7 t.f7⟩
set_option maxHeartbeats 4000000 in
set_option maxRecDepth 100000 in
theorem heap_first (g : Nat) (s t : S40) (odd : Bool) (w : World) (hh : HeapAt w g s 0 odd) :
    Calls Try.prog 51 #[.pointer (some ⟨g, 0, none⟩), .agg #[.int .i64 t.f0, .int .i64 t.f1, .int .i64 t.f2, .int .i64 t.f3, .int .i64 t.f4, .int .u64 t.f5, .int .u64 t.f6, .int .u64 t.f7]] w fun e w' => e = .returned (.tuple #[]) ∧ HeapAt w' g t 1 odd ∧ Below g w w' := by
  obtain ⟨h0, h1, h2, h3, h4, h5, h6, h7, h8, h9, hf, hlt⟩ := hh
  have f0 := hf 0; have f1 := hf 1; have f2 := hf 2; have f3 := hf 3; have f4 := hf 4; have f5 := hf 5; have f6 := hf 6; have f7 := hf 7; have f8 := hf 8; have f9 := hf 9
  have HF := hidJ hf
  clear hf
  obtain ⟨t0, t1, t2, t3, t4, t5, t6, t7⟩ := t
  go_enter Try.func51, Try.ntmps51
  go_wp2
  refine bodyPost_ret (results_none rfl _ _ _) rfl ?_
  refine ⟨rfl, ?_, ?_⟩
  · unfold HeapAt
    go_simp
    exact HF.out
  · refine Below.alloc ?_ (by simp; omega) _
    repeat (with_reducible refine below_put ?_ _ _)
    exact Below.refl _ _
set_option maxHeartbeats 16000000 in
set_option maxRecDepth 100000 in
theorem heap_more (g : Nat) (s t : S40) (m : Int) (odd : Bool) (w : World) (hm : 1 ≤ m) (hm2 : m ≤ 4611686018427387904) (hh : HeapAt w g s m odd) :
    Calls Try.prog 51 #[.pointer (some ⟨g, 0, none⟩), .agg #[.int .i64 t.f0, .int .i64 t.f1, .int .i64 t.f2, .int .i64 t.f3, .int .i64 t.f4, .int .u64 t.f5, .int .u64 t.f6, .int .u64 t.f7]] w fun e w' => e = .returned (.tuple #[]) ∧ HeapAt w' g (joinS s t) (m + 1) (odd || t.f0 != s.f0) ∧ Below g w w' := by
  obtain ⟨h0, h1, h2, h3, h4, h5, h6, h7, h8, h9, hf, hlt⟩ := hh
  obtain ⟨t0, t1, t2, t3, t4, t5, t6, t7⟩ := t
  obtain ⟨s0, s1, s2, s3, s4, s5, s6, s7⟩ := s
  have hne : (m + 1 == 1) = false := beq_eq_false_iff_ne.mpr (by omega)
  have f8 := hf 8
  have HF := hidJ hf
  clear hf
  dsimp only at h0 h1 h2 h3 h4 h5 h6 h7
  obtain ⟨v1, q1⟩ : ∃ v, (if t1 < s1 then t1 else s1) = v := ⟨_, rfl⟩
  obtain ⟨v2, q2⟩ : ∃ v, (if t2 < s2 then t2 else s2) = v := ⟨_, rfl⟩
  obtain ⟨v3, q3⟩ : ∃ v, (if t3 < s3 then t3 else s3) = v := ⟨_, rfl⟩
  obtain ⟨v4, q4⟩ : ∃ v, (if t4 < s4 then t4 else s4) = v := ⟨_, rfl⟩
  obtain ⟨v5, q5⟩ : ∃ v, Go.bits .and .u64 s5 t5 = v := ⟨_, rfl⟩
  obtain ⟨v6, q6⟩ : ∃ v, Go.bits .or .u64 s6 t6 = v := ⟨_, rfl⟩
  obtain ⟨v7, q7⟩ : ∃ v, Go.bits .and .u64 s7 t7 = v := ⟨_, rfl⟩
  have QQ := hidJ (⟨q1, q2, q3, q4, q5, q6, q7⟩ : _ ∧ _ ∧ _ ∧ _ ∧ _ ∧ _ ∧ _)
  clear q1 q2 q3 q4 q5 q6 q7
  go_enter Try.func51, Try.ntmps51
  go_wp2
  refine at_world (F := Mid w g w.heap.size s0 s1 s2 s3 s4 s5 s6 s7 (m + 1) odd t0 t1 t2 t3 t4 t5 t6 t7) ?_ ?_
  · exact ⟨by go_simp, by go_simp, by go_simp, by go_simp, by go_simp, by go_simp, by go_simp, by go_simp, by go_simp, by go_simp, by go_simp, by go_simp, by go_simp, by go_simp, by go_simp, by go_simp, by go_simp, by go_simp, fun i => by have := HF.out i; go_simp, by (refine Below.alloc ?_ (by simp; omega) _; (repeat (with_reducible refine below_put ?_ _ _)); exact Below.refl _ _), hlt, by first | omega | (go_simp; omega) | go_simp⟩
  rintro W1 ⟨c0, c1, c2, c3, c4, c5, c6, c7, c8, c9, d0, d1, d2, d3, d4, d5, d6, d7, hf, HB, hgb, hbs⟩
  generalize w.heap.size = b at *
  clear h0 h1 h2 h3 h4 h5 h6 h7 h8 h9 f8 HF
  obtain ⟨od, hod⟩ : ∃ q, (odd || t0 != s0) = q := ⟨_, rfl⟩
  have HOD := hidJ hod
  clear hod
  cases odd with
  | true =>
    have HF1 := hidJ hf
    have HB1 := hidJ HB
    have f9 := hf 9
    clear hf HB
    as_aux_lemma =>
    go_region
    go_wp2
    refine at_world (F := Mid w g b s0 s1 s2 s3 s4 s5 s6 s7 (m + 1) true t0 t1 t2 t3 t4 t5 t6 t7) ?_ ?_
    · exact ⟨by go_simp, by go_simp, by go_simp, by go_simp, by go_simp, by go_simp, by go_simp, by go_simp, by go_simp, by go_simp, by go_simp, by go_simp, by go_simp, by go_simp, by go_simp, by go_simp, by go_simp, by go_simp, fun i => by have := HF1.out i; go_simp, by (have hz := HB1.out; refine Below.drew ?_; (repeat (with_reducible refine below_put ?_ _ _)); exact hz), by omega, by first | omega | (go_simp; omega) | go_simp⟩
    rintro W2 ⟨c0, c1, c2, c3, c4, c5, c6, c7, c8, c9, d0, d1, d2, d3, d4, d5, d6, d7, hf, HB, hgb, hbs⟩
    clear HF1 HB1 f9
    have HF1 := hidJ hf
    have HB1 := hidJ HB
    have f1 := hf 1
    have f2 := hf 2
    clear hf HB
    obtain ⟨q1, q2, q3, q4, q5, q6, q7⟩ := QQ.out
    as_aux_lemma =>
    go_region
    go_wp2
    refine at_world (F := Mid w g b s0 v1 v2 s3 s4 s5 s6 s7 (m + 1) true t0 t1 t2 t3 t4 t5 t6 t7) ?_ ?_
    · exact ⟨by go_simp, by go_simp, by go_simp, by go_simp, by go_simp, by go_simp, by go_simp, by go_simp, by go_simp, by go_simp, by go_simp, by go_simp, by go_simp, by go_simp, by go_simp, by go_simp, by go_simp, by go_simp, fun i => by have := HF1.out i; go_simp, by (have hz := HB1.out; refine Below.drew ?_; (repeat (with_reducible refine below_put ?_ _ _)); exact hz), by omega, by first | omega | (go_simp; omega) | go_simp⟩
    rintro W3 ⟨c0, c1, c2, c3, c4, c5, c6, c7, c8, c9, d0, d1, d2, d3, d4, d5, d6, d7, hf, HB, hgb, hbs⟩
    clear HF1 HB1 f1 f2
    clear q1 q2 q3 q4 q5 q6 q7
    have HF1 := hidJ hf
    have HB1 := hidJ HB
    have f3 := hf 3
    have f4 := hf 4
    clear hf HB
    obtain ⟨q1, q2, q3, q4, q5, q6, q7⟩ := QQ.out
    as_aux_lemma =>
    go_region
    go_wp2
    refine at_world (F := Mid w g b s0 v1 v2 v3 v4 s5 s6 s7 (m + 1) true t0 t1 t2 t3 t4 t5 t6 t7) ?_ ?_
    · exact ⟨by go_simp, by go_simp, by go_simp, by go_simp, by go_simp, by go_simp, by go_simp, by go_simp, by go_simp, by go_simp, by go_simp, by go_simp, by go_simp, by go_simp, by go_simp, by go_simp, by go_simp, by go_simp, fun i => by have := HF1.out i; go_simp, by (have hz := HB1.out; refine Below.drew ?_; (repeat (with_reducible refine below_put ?_ _ _)); exact hz), by omega, by first | omega | (go_simp; omega) | go_simp⟩
    rintro W4 ⟨c0, c1, c2, c3, c4, c5, c6, c7, c8, c9, d0, d1, d2, d3, d4, d5, d6, d7, hf, HB, hgb, hbs⟩
    clear HF1 HB1 f3 f4
    clear q1 q2 q3 q4 q5 q6 q7
    have HF1 := hidJ hf
    have HB1 := hidJ HB
    have f5 := hf 5
    have f7 := hf 7
    clear hf HB
    obtain ⟨q1, q2, q3, q4, q5, q6, q7⟩ := QQ.out
    as_aux_lemma =>
    go_region
    go_wp2
    refine at_world (F := Mid w g b s0 v1 v2 v3 v4 v5 s6 v7 (m + 1) true t0 t1 t2 t3 t4 t5 t6 t7) ?_ ?_
    · exact ⟨by go_simp, by go_simp, by go_simp, by go_simp, by go_simp, by go_simp, by go_simp, by go_simp, by go_simp, by go_simp, by go_simp, by go_simp, by go_simp, by go_simp, by go_simp, by go_simp, by go_simp, by go_simp, fun i => by have := HF1.out i; go_simp, by (have hz := HB1.out; refine Below.drew ?_; (repeat (with_reducible refine below_put ?_ _ _)); exact hz), by omega, by first | omega | (go_simp; omega) | go_simp⟩
    rintro W5 ⟨c0, c1, c2, c3, c4, c5, c6, c7, c8, c9, d0, d1, d2, d3, d4, d5, d6, d7, hf, HB, hgb, hbs⟩
    clear HF1 HB1 f5 f7
    clear q1 q2 q3 q4 q5 q6 q7
    have HF1 := hidJ hf
    have HB1 := hidJ HB
    have f6 := hf 6
    clear hf HB
    obtain ⟨q1, q2, q3, q4, q5, q6, q7⟩ := QQ.out
    as_aux_lemma =>
    go_region
    go_wp2
    go_end0
    refine ⟨rfl, ?_, ?_⟩
    · unfold HeapAt joinS mn
      simp only [q1, q2, q3, q4, q5, q6, q7]
      refine ⟨by go_simp, by go_simp, by go_simp, by go_simp, by go_simp, by go_simp, by go_simp, by go_simp, by go_simp, by go_simp, fun i => by have := HF1.out i; go_simp, by first | omega | (go_simp; omega) | go_simp⟩
    · (have hz := HB1.out; refine Below.drew ?_; (repeat (with_reducible refine below_put ?_ _ _)); exact hz)

  | false =>
    have HF1 := hidJ hf
    have HB1 := hidJ HB
    have f9 := hf 9
    clear hf HB
    have q0 : (t0 != s0) = od := by simpa using HOD.out
    as_aux_lemma =>
    go_region
    go_wp2
    refine at_world (F := Mid w g b s0 s1 s2 s3 s4 s5 s6 s7 (m + 1) od t0 t1 t2 t3 t4 t5 t6 t7) ?_ ?_
    · exact ⟨by go_simp, by go_simp, by go_simp, by go_simp, by go_simp, by go_simp, by go_simp, by go_simp, by go_simp, by go_simp, by go_simp, by go_simp, by go_simp, by go_simp, by go_simp, by go_simp, by go_simp, by go_simp, fun i => by have := HF1.out i; go_simp, by (have hz := HB1.out; refine Below.drew ?_; (repeat (with_reducible refine below_put ?_ _ _)); exact hz), by omega, by first | omega | (go_simp; omega) | go_simp⟩
    rintro W2 ⟨c0, c1, c2, c3, c4, c5, c6, c7, c8, c9, d0, d1, d2, d3, d4, d5, d6, d7, hf, HB, hgb, hbs⟩
    clear HF1 HB1 f9
    clear q0
    have HF1 := hidJ hf
    have HB1 := hidJ HB
    have f1 := hf 1
    have f2 := hf 2
    clear hf HB
    obtain ⟨q1, q2, q3, q4, q5, q6, q7⟩ := QQ.out
    as_aux_lemma =>
    go_region
    go_wp2
    refine at_world (F := Mid w g b s0 v1 v2 s3 s4 s5 s6 s7 (m + 1) od t0 t1 t2 t3 t4 t5 t6 t7) ?_ ?_
    · exact ⟨by go_simp, by go_simp, by go_simp, by go_simp, by go_simp, by go_simp, by go_simp, by go_simp, by go_simp, by go_simp, by go_simp, by go_simp, by go_simp, by go_simp, by go_simp, by go_simp, by go_simp, by go_simp, fun i => by have := HF1.out i; go_simp, by (have hz := HB1.out; refine Below.drew ?_; (repeat (with_reducible refine below_put ?_ _ _)); exact hz), by omega, by first | omega | (go_simp; omega) | go_simp⟩
    rintro W3 ⟨c0, c1, c2, c3, c4, c5, c6, c7, c8, c9, d0, d1, d2, d3, d4, d5, d6, d7, hf, HB, hgb, hbs⟩
    clear HF1 HB1 f1 f2
    clear q1 q2 q3 q4 q5 q6 q7
    have HF1 := hidJ hf
    have HB1 := hidJ HB
    have f3 := hf 3
    have f4 := hf 4
    clear hf HB
    obtain ⟨q1, q2, q3, q4, q5, q6, q7⟩ := QQ.out
    as_aux_lemma =>
    go_region
    go_wp2
    refine at_world (F := Mid w g b s0 v1 v2 v3 v4 s5 s6 s7 (m + 1) od t0 t1 t2 t3 t4 t5 t6 t7) ?_ ?_
    · exact ⟨by go_simp, by go_simp, by go_simp, by go_simp, by go_simp, by go_simp, by go_simp, by go_simp, by go_simp, by go_simp, by go_simp, by go_simp, by go_simp, by go_simp, by go_simp, by go_simp, by go_simp, by go_simp, fun i => by have := HF1.out i; go_simp, by (have hz := HB1.out; refine Below.drew ?_; (repeat (with_reducible refine below_put ?_ _ _)); exact hz), by omega, by first | omega | (go_simp; omega) | go_simp⟩
    rintro W4 ⟨c0, c1, c2, c3, c4, c5, c6, c7, c8, c9, d0, d1, d2, d3, d4, d5, d6, d7, hf, HB, hgb, hbs⟩
    clear HF1 HB1 f3 f4
    clear q1 q2 q3 q4 q5 q6 q7
    have HF1 := hidJ hf
    have HB1 := hidJ HB
    have f5 := hf 5
    have f7 := hf 7
    clear hf HB
    obtain ⟨q1, q2, q3, q4, q5, q6, q7⟩ := QQ.out
    as_aux_lemma =>
    go_region
    go_wp2
    refine at_world (F := Mid w g b s0 v1 v2 v3 v4 v5 s6 v7 (m + 1) od t0 t1 t2 t3 t4 t5 t6 t7) ?_ ?_
    · exact ⟨by go_simp, by go_simp, by go_simp, by go_simp, by go_simp, by go_simp, by go_simp, by go_simp, by go_simp, by go_simp, by go_simp, by go_simp, by go_simp, by go_simp, by go_simp, by go_simp, by go_simp, by go_simp, fun i => by have := HF1.out i; go_simp, by (have hz := HB1.out; refine Below.drew ?_; (repeat (with_reducible refine below_put ?_ _ _)); exact hz), by omega, by first | omega | (go_simp; omega) | go_simp⟩
    rintro W5 ⟨c0, c1, c2, c3, c4, c5, c6, c7, c8, c9, d0, d1, d2, d3, d4, d5, d6, d7, hf, HB, hgb, hbs⟩
    clear HF1 HB1 f5 f7
    clear q1 q2 q3 q4 q5 q6 q7
    have HF1 := hidJ hf
    have HB1 := hidJ HB
    have f6 := hf 6
    clear hf HB
    obtain ⟨q1, q2, q3, q4, q5, q6, q7⟩ := QQ.out
    as_aux_lemma =>
    go_region
    go_wp2
    go_end0
    refine ⟨rfl, ?_, ?_⟩
    · unfold HeapAt joinS mn
      simp only [q1, q2, q3, q4, q5, q6, q7]
      refine ⟨by go_simp, by go_simp, by go_simp, by go_simp, by go_simp, by go_simp, by go_simp, by go_simp, by go_simp, by rw [HOD.out]; go_simp, fun i => by have := HF1.out i; go_simp, by first | omega | (go_simp; omega) | go_simp⟩
    · (have hz := HB1.out; refine Below.drew ?_; (repeat (with_reducible refine below_put ?_ _ _)); exact hz)


theorem heapAt_alloc {w : World} {g : Nat} {s : S40} {m : Int} {odd : Bool} (h : HeapAt w g s m odd) (o : Obj) : HeapAt (w.alloc o) g s m odd := by
  obtain ⟨h0, h1, h2, h3, h4, h5, h6, h7, h8, h9, hf, hlt⟩ := h
  have hb : Below w.heap.size w (w.alloc o) := (Below.refl _ _).alloc (Nat.le_refl _) o
  have hc : ∀ i, (w.alloc o).cell? ⟨g, i, none⟩ = w.cell? ⟨g, i, none⟩ := fun i => hb.cell (p := ⟨g, i, none⟩) hlt
  exact ⟨(hc 0).trans h0, (hc 1).trans h1, (hc 2).trans h2, (hc 3).trans h3, (hc 4).trans h4, (hc 5).trans h5, (hc 6).trans h6, (hc 7).trans h7, (hc 8).trans h8, (hc 9).trans h9, fun i => (hb.frozen (p := ⟨g, i, none⟩) hlt).trans (hf i), by simp; omega⟩
/-- The heap behind one more. -/
def stepH (h : S40 × Int × Bool) (t : S40) : S40 × Int × Bool := if h.2.1 = 0 then (t, 1, h.2.2) else (joinS h.1 t, h.2.1 + 1, h.2.2 || t.f0 != h.1.f0)
theorem heap_step (g : Nat) (h : S40 × Int × Bool) (t : S40) (w : World) (hm : 0 ≤ h.2.1) (hm2 : h.2.1 ≤ 4611686018427387904) (hh : HeapAt w g h.1 h.2.1 h.2.2) :
    Calls Try.prog 51 #[.pointer (some ⟨g, 0, none⟩), .agg #[.int .i64 t.f0, .int .i64 t.f1, .int .i64 t.f2, .int .i64 t.f3, .int .i64 t.f4, .int .u64 t.f5, .int .u64 t.f6, .int .u64 t.f7]] w fun e w' => e = .returned (.tuple #[]) ∧ HeapAt w' g (stepH h t).1 (stepH h t).2.1 (stepH h t).2.2 ∧ Below g w w' := by
  obtain ⟨s, m, odd⟩ := h
  dsimp only at hm hm2 hh
  unfold stepH
  by_cases h0 : m = 0
  · subst h0
    rw [if_pos rfl]
    exact heap_first g s t odd w hh
  · rw [if_neg h0]
    exact heap_more g s t m odd w (by omega) hm2 hh
theorem stepH_count (l : List S40) : ∀ h : S40 × Int × Bool, 0 ≤ h.2.1 → (l.foldl stepH h).2.1 = h.2.1 + l.length := by
  induction l with
  | nil => intro h _; simp
  | cons t l ih =>
    intro h hm
    have e : (stepH h t).2.1 = h.2.1 + 1 := by unfold stepH; split <;> simp <;> omega
    rw [List.foldl_cons, ih _ (by omega), e, List.length_cons]; omega
set_option maxHeartbeats 4000000 in
theorem each_calls (g : Nat) (A0 : Option Addr) (c0 : Nat) (l0 : List S40) (s : S40) (w0 w : World) (hr0 : Kd.C k40 w0 A0 l0.length l0) (hlen : l0.length ≤ 1000000000) (hB : Below w0.heap.size w0 w) (hg : w0.heap.size ≤ g) (hh : HeapAt w g s 0 false) :
    Calls Try.prog 50 #[.func (.func 51) #[.pointer (some ⟨g, 0, none⟩)] #[], .slice A0 l0.length c0] w fun e w' => e = .returned (.tuple #[]) ∧ HeapAt w' g (l0.foldl stepH (s, 0, false)).1 (l0.length : Int) (l0.foldl stepH (s, 0, false)).2.2 ∧ Below g w w' := by
  have HR := hidJ hr0
  have HB0 := hidJ hB
  have HH := hidJ hh
  clear hr0 hB hh
  go_enter Try.func50, Try.ntmps50
  go_wp2
  go_loopw [8] (fun i wr => ∃ k : Nat, k ≤ l0.length ∧ i = .int .i64 k ∧ Hid (HeapAt wr g ((l0.take k).foldl stepH (s, 0, false)).1 (k : Int) ((l0.take k).foldl stepH (s, 0, false)).2.2) ∧ Hid (Below g w wr)) (fun i _ => l0.length - (intOf i).toNat)
  case atStart => exact ⟨0, Nat.zero_le _, rfl, HH, Below.refl _ _⟩
  case round =>
    obtain ⟨k, hk, rfl, HK, HBK⟩ := hrel
    by_cases hlt : k < l0.length
    · have q := at_T40 HR.out (k : Int) (by omega) (by omega)
      obtain ⟨ad, hA, e0, e1, e2, e3, e4, e5, e6, e7⟩ := q
      have HBB : Below w0.heap.size w0 wr := HB0.out.trans (HBK.out.mono hg)
      simp only [Int.toNat_natCast] at e0 e1 e2 e3 e4 e5 e6 e7
      replace e0 := (HBB.cell (World.block_lt_of_cell? w0 _ e0)).trans e0
      replace e1 := (HBB.cell (World.block_lt_of_cell? w0 _ e1)).trans e1
      replace e2 := (HBB.cell (World.block_lt_of_cell? w0 _ e2)).trans e2
      replace e3 := (HBB.cell (World.block_lt_of_cell? w0 _ e3)).trans e3
      replace e4 := (HBB.cell (World.block_lt_of_cell? w0 _ e4)).trans e4
      replace e5 := (HBB.cell (World.block_lt_of_cell? w0 _ e5)).trans e5
      replace e6 := (HBB.cell (World.block_lt_of_cell? w0 _ e6)).trans e6
      replace e7 := (HBB.cell (World.block_lt_of_cell? w0 _ e7)).trans e7
      have hcount := stepH_count (l0.take k) (s, 0, false) (by simp)
      have hst : (l0.take (k + 1)).foldl stepH (s, 0, false) = stepH ((l0.take k).foldl stepH (s, 0, false)) (rd_T40 l0 (k : Int)) := by
        rw [List.take_succ_eq_append_getElem hlt, List.foldl_append]
        have : rd_T40 l0 (k : Int) = l0[k] := by unfold rd_T40; simp [hlt]
        rw [this]; rfl
      have HC := hidJ (show ((l0.take k).foldl stepH (s, 0, false)).2.1 = (k : Int) by rw [hcount]; simp; omega)
      have HS := hidJ hst
      clear hcount hst HBB
      subst hA
      generalize rd_T40 l0 (k : Int) = t at *
      generalize (l0.take k).foldl stepH (s, 0, false) = h at *
      go_wp2_with fail
      refine (heap_step g h t _ (by rw [HC.out]; omega) (by rw [HC.out]; omega) (by rw [HC.out]; exact heapAt_alloc HK.out _)).mono ?_
      rintro e w' ⟨rfl, hH, hb⟩
      have hH2 := hidJ hH
      have hb2 := hidJ (show Below g w w' from (HBK.out.alloc (by have := HK.out.2.2.2.2.2.2.2.2.2.2.2; omega) _).trans hb)
      clear hH hb
      go_wp2
      go_roundw
      case rel =>
        refine ⟨k + 1, by omega, by go_num, ?_, hb2.out⟩
        rw [HS.out]
        have := hH2.out
        rwa [show (stepH h t).2.1 = ((k + 1 : Nat) : Int) by unfold stepH; rw [HC.out]; split <;> simp <;> omega] at this
      case measure => simp [intOf]; omega
    · go_wp2
      go_end0
      have hk2 : k = l0.length := by omega
      subst hk2
      refine ⟨rfl, ?_, HBK.out⟩
      have := HK.out
      rwa [List.take_length] at this

def zeroS : S40 := ⟨0, 0, 0, 0, 0, 0, 0, 0⟩
def relax_Join.f (l0 : List S40) : Option (Int × Int × Int × Int × Int × Int × Int × Int × Bool) :=
  if l0.length ≤ 1000000000 then (if l0.length = 0 then some (0, 0, 0, 0, 0, 0, 0, 0, false) else if (l0.foldl stepH (zeroS, 0, false)).2.2 = true then some (0, 0, 0, 0, 0, 0, 0, 0, false) else
    some ((l0.foldl stepH (zeroS, 0, false)).1.f0, (l0.foldl stepH (zeroS, 0, false)).1.f1, (l0.foldl stepH (zeroS, 0, false)).1.f2, (l0.foldl stepH (zeroS, 0, false)).1.f3, (l0.foldl stepH (zeroS, 0, false)).1.f4, (l0.foldl stepH (zeroS, 0, false)).1.f5, (l0.foldl stepH (zeroS, 0, false)).1.f6, (l0.foldl stepH (zeroS, 0, false)).1.f7, true)) else none
theorem heapAt_new (w : World) : HeapAt (w.alloc (.cells #[.int .i64 0, .int .i64 0, .int .i64 0, .int .i64 0, .int .i64 0, .int .u64 0, .int .u64 0, .int .u64 0, .int .i64 0, .bool false] 92)) w.heap.size zeroS 0 false := by
  unfold HeapAt zeroS
  refine ⟨by go_simp, by go_simp, by go_simp, by go_simp, by go_simp, by go_simp, by go_simp, by go_simp, by go_simp, by go_simp, fun i => ?_, by simp⟩
  have e : ∀ o : Obj, (w.alloc o).heap[w.heap.size]? = some o := fun o => by show (w.heap.push _)[w.heap.size]? = _; simp
  simp only [World.frozen?, e]
  simp
set_option maxHeartbeats 8000000 in
set_option maxRecDepth 100000 in
theorem relax_Join.calls (A0 : Option Addr) (c0 : Nat) (l0 : List S40) (r1 r2 r3 r4 r5 r6 r7 r8 : Int) (r9 : Bool) (w : World) (hr0 : Kd.C k40 w A0 l0.length l0) (hc0 : l0.length ≤ c0) (h : relax_Join.f l0 = some (r1, r2, r3, r4, r5, r6, r7, r8, r9)) :
    Calls Try.prog 35 #[.slice A0 l0.length c0] w fun e w' => e = .returned (.tuple #[.agg #[.int .i64 r1, .int .i64 r2, .int .i64 r3, .int .i64 r4, .int .i64 r5, .int .u64 r6, .int .u64 r7, .int .u64 r8], .bool r9]) ∧ Below w.heap.size w w' := by
  unfold relax_Join.f at h
  have HR := hidJ hr0
  clear hr0 hc0
  by_cases hlen : l0.length ≤ 1000000000
  · rw [if_pos hlen] at h
    generalize hfold : l0.foldl stepH (zeroS, 0, false) = q at *
    obtain ⟨s, m, odd⟩ := q
    dsimp only at h
    have HF := hidJ hfold
    have H := hidJ h
    clear hfold h
    go_enter Try.func35, Try.ntmps35
    go_wp2_with fail
    refine (each_calls (w.heap.size + 1) A0 c0 l0 zeroS w _ HR.out hlen ?_ (by omega) ?_).mono ?_
    · exact ((Below.refl _ _).alloc (Nat.le_refl _) _).alloc (by simp) _
    · have := heapAt_new (w.alloc (.cells #[.int .i64 0, .int .i64 0, .int .i64 0, .int .i64 0, .int .i64 0, .int .u64 0, .int .u64 0, .int .u64 0] 40))
      simpa using this
    rintro e w1 ⟨rfl, hH, hb⟩
    rw [HF.out] at hH
    obtain ⟨h0, h1, h2, h3, h4, h5, h6, h7, h8, h9, hf, hlt⟩ := hH
    dsimp only at h0 h1 h2 h3 h4 h5 h6 h7 h9
    have HB := hidJ (show Below w.heap.size w w1 from (((Below.refl _ _).alloc (Nat.le_refl _) _).alloc (by simp) _).trans (hb.mono (by omega)))
    have z0 : w1.cell? ⟨w.heap.size, 0, none⟩ = some (.int .i64 0) := (hb.cell (p := ⟨w.heap.size, 0, none⟩) (by show w.heap.size < w.heap.size + 1; omega)).trans (by go_simp)
    have y0 : w1.frozen? ⟨w.heap.size, 0, none⟩ = false := (hb.frozen (p := ⟨w.heap.size, 0, none⟩) (by show w.heap.size < w.heap.size + 1; omega)).trans (by go_simp)
    have z1 : w1.cell? ⟨w.heap.size, 1, none⟩ = some (.int .i64 0) := (hb.cell (p := ⟨w.heap.size, 1, none⟩) (by show w.heap.size < w.heap.size + 1; omega)).trans (by go_simp)
    have y1 : w1.frozen? ⟨w.heap.size, 1, none⟩ = false := (hb.frozen (p := ⟨w.heap.size, 1, none⟩) (by show w.heap.size < w.heap.size + 1; omega)).trans (by go_simp)
    have z2 : w1.cell? ⟨w.heap.size, 2, none⟩ = some (.int .i64 0) := (hb.cell (p := ⟨w.heap.size, 2, none⟩) (by show w.heap.size < w.heap.size + 1; omega)).trans (by go_simp)
    have y2 : w1.frozen? ⟨w.heap.size, 2, none⟩ = false := (hb.frozen (p := ⟨w.heap.size, 2, none⟩) (by show w.heap.size < w.heap.size + 1; omega)).trans (by go_simp)
    have z3 : w1.cell? ⟨w.heap.size, 3, none⟩ = some (.int .i64 0) := (hb.cell (p := ⟨w.heap.size, 3, none⟩) (by show w.heap.size < w.heap.size + 1; omega)).trans (by go_simp)
    have y3 : w1.frozen? ⟨w.heap.size, 3, none⟩ = false := (hb.frozen (p := ⟨w.heap.size, 3, none⟩) (by show w.heap.size < w.heap.size + 1; omega)).trans (by go_simp)
    have z4 : w1.cell? ⟨w.heap.size, 4, none⟩ = some (.int .i64 0) := (hb.cell (p := ⟨w.heap.size, 4, none⟩) (by show w.heap.size < w.heap.size + 1; omega)).trans (by go_simp)
    have y4 : w1.frozen? ⟨w.heap.size, 4, none⟩ = false := (hb.frozen (p := ⟨w.heap.size, 4, none⟩) (by show w.heap.size < w.heap.size + 1; omega)).trans (by go_simp)
    have z5 : w1.cell? ⟨w.heap.size, 5, none⟩ = some (.int .u64 0) := (hb.cell (p := ⟨w.heap.size, 5, none⟩) (by show w.heap.size < w.heap.size + 1; omega)).trans (by go_simp)
    have y5 : w1.frozen? ⟨w.heap.size, 5, none⟩ = false := (hb.frozen (p := ⟨w.heap.size, 5, none⟩) (by show w.heap.size < w.heap.size + 1; omega)).trans (by go_simp)
    have z6 : w1.cell? ⟨w.heap.size, 6, none⟩ = some (.int .u64 0) := (hb.cell (p := ⟨w.heap.size, 6, none⟩) (by show w.heap.size < w.heap.size + 1; omega)).trans (by go_simp)
    have y6 : w1.frozen? ⟨w.heap.size, 6, none⟩ = false := (hb.frozen (p := ⟨w.heap.size, 6, none⟩) (by show w.heap.size < w.heap.size + 1; omega)).trans (by go_simp)
    have z7 : w1.cell? ⟨w.heap.size, 7, none⟩ = some (.int .u64 0) := (hb.cell (p := ⟨w.heap.size, 7, none⟩) (by show w.heap.size < w.heap.size + 1; omega)).trans (by go_simp)
    have y7 : w1.frozen? ⟨w.heap.size, 7, none⟩ = false := (hb.frozen (p := ⟨w.heap.size, 7, none⟩) (by show w.heap.size < w.heap.size + 1; omega)).trans (by go_simp)
    clear hb
    have HFF := hidJ hf
    clear hf
    by_cases hl : l0.length = 0
    · have hl2 : ((l0.length : Int) == 0) = true := by rw [hl]; rfl
      have HL := hidJ hl
      clear hl
      go_wp2
      have h := H.out
      rw [if_pos HL.out] at h
      simp only [Option.some.injEq, Prod.mk.injEq] at h
      obtain ⟨rfl, rfl, rfl, rfl, rfl, rfl, rfl, rfl, rfl⟩ := h
      refine bodyPost_ret (v := .tuple #[.agg #[.int .i64 0, .int .i64 0, .int .i64 0, .int .i64 0, .int .i64 0, .int .u64 0, .int .u64 0, .int .u64 0], .bool false]) ?_ rfl ⟨rfl, ?_⟩
      · (simp only [results, Try.results35]; go_simp)
      · have hz := HB.out
        (repeat (with_reducible refine below_put ?_ _ _))
        exact hz
    · have hl2 : ((l0.length : Int) == 0) = false := beq_eq_false_iff_ne.mpr (by omega)
      have HL := hidJ hl
      clear hl
      cases odd with
      | true =>
        go_wp2
        have h := H.out
        rw [if_neg HL.out] at h
        simp only [if_true, Option.some.injEq, Prod.mk.injEq] at h
        obtain ⟨rfl, rfl, rfl, rfl, rfl, rfl, rfl, rfl, rfl⟩ := h
        refine bodyPost_ret (v := .tuple #[.agg #[.int .i64 0, .int .i64 0, .int .i64 0, .int .i64 0, .int .i64 0, .int .u64 0, .int .u64 0, .int .u64 0], .bool false]) ?_ rfl ⟨rfl, ?_⟩
        · (simp only [results, Try.results35]; go_simp)
        · have hz := HB.out
          (repeat (with_reducible refine below_put ?_ _ _))
          exact hz
      | false =>
        go_wp2
        have h := H.out
        rw [if_neg HL.out, if_neg (by simp)] at h
        simp only [Option.some.injEq, Prod.mk.injEq] at h
        obtain ⟨rfl, rfl, rfl, rfl, rfl, rfl, rfl, rfl, rfl⟩ := h
        refine bodyPost_ret (v := .tuple #[.agg #[.int .i64 s.f0, .int .i64 s.f1, .int .i64 s.f2, .int .i64 s.f3, .int .i64 s.f4, .int .u64 s.f5, .int .u64 s.f6, .int .u64 s.f7], .bool true]) ?_ rfl ⟨rfl, ?_⟩
        · (simp only [results, Try.results35]; go_simp)
        · have hz := HB.out
          (repeat (with_reducible refine below_put ?_ _ _))
          exact hz
  · rw [if_neg hlen] at h
    exact absurd h (by simp)

/-! ### haulierlaw11_awake: function 20 -/
def haulierlaw11_awake.f  : Option (Bool) := (relax_Join.f (([(⟨4, 0, 5, 0, 0, 6, 6, 0⟩ : S40), (⟨4, 0, 4, 0, 0, 10, 10, 0⟩ : S40)] : List (S40)))).bind fun bt166 => (if bt166.2.2.2.2.2.2.2.2 = true then (if (bt166.1 == 4 && (bt166.2.1 == 0 && (bt166.2.2.1 == 4 && (bt166.2.2.2.1 == 0 && (bt166.2.2.2.2.1 == 0 && (bt166.2.2.2.2.2.1 == 2 && (bt166.2.2.2.2.2.2.1 == 14 && (bt166.2.2.2.2.2.2.2.1 == 0)))))))) = true then ((relax_Covers.f bt166.1 bt166.2.1 bt166.2.2.1 bt166.2.2.2.1 bt166.2.2.2.2.1 bt166.2.2.2.2.2.1 bt166.2.2.2.2.2.2.1 bt166.2.2.2.2.2.2.2.1 4 0 5 0 0 6 6 0).bind fun t176 => (some t176)) else (none)) else (none))
set_option maxHeartbeats 16000000 in
set_option maxRecDepth 100000 in
theorem haulierlaw11_awake.calls  (r : Bool) (w : World) (h : haulierlaw11_awake.f  = some r) :
  Calls Try.prog 20 #[] w fun e w' => e = .returned (.bool r) ∧ Below w.heap.size w w' := by
 have hu40 := Try.underlying40
 have HB := zqi (Below.refl w.heap.size w)
 have H : ((relax_Join.f (([(⟨4, 0, 5, 0, 0, 6, 6, 0⟩ : S40), (⟨4, 0, 4, 0, 0, 10, 10, 0⟩ : S40)] : List (S40)))).bind fun bt166 => (if bt166.2.2.2.2.2.2.2.2 = true then (if (bt166.1 == 4 && (bt166.2.1 == 0 && (bt166.2.2.1 == 4 && (bt166.2.2.2.1 == 0 && (bt166.2.2.2.2.1 == 0 && (bt166.2.2.2.2.2.1 == 2 && (bt166.2.2.2.2.2.2.1 == 14 && (bt166.2.2.2.2.2.2.2.1 == 0)))))))) = true then ((relax_Covers.f bt166.1 bt166.2.1 bt166.2.2.1 bt166.2.2.2.1 bt166.2.2.2.2.1 bt166.2.2.2.2.2.1 bt166.2.2.2.2.2.2.1 bt166.2.2.2.2.2.2.2.1 4 0 5 0 0 6 6 0).bind fun t176 => (some t176)) else (none)) else (none))) = some r := h
 clear h
 obtain ⟨y163, hy163⟩ : ∃ y_ : List (S40), y_ = (([(⟨4, 0, 5, 0, 0, 6, 6, 0⟩ : S40), (⟨4, 0, 4, 0, 0, 10, 10, 0⟩ : S40)] : List (S40))) := ⟨_, rfl⟩
 replace H : ((relax_Join.f y163).bind fun bt166 => (if bt166.2.2.2.2.2.2.2.2 = true then (if (bt166.1 == 4 && (bt166.2.1 == 0 && (bt166.2.2.1 == 4 && (bt166.2.2.2.1 == 0 && (bt166.2.2.2.2.1 == 0 && (bt166.2.2.2.2.2.1 == 2 && (bt166.2.2.2.2.2.2.1 == 14 && (bt166.2.2.2.2.2.2.2.1 == 0)))))))) = true then ((relax_Covers.f bt166.1 bt166.2.1 bt166.2.2.1 bt166.2.2.2.1 bt166.2.2.2.2.1 bt166.2.2.2.2.2.1 bt166.2.2.2.2.2.2.1 bt166.2.2.2.2.2.2.2.1 4 0 5 0 0 6 6 0).bind fun t176 => (some t176)) else (none)) else (none))) = some r := by first | (rw [hy163]; with_reducible exact H) | (have H2_ := (Option.bind_some _ _).symm.trans H; rw [hy163]; with_reducible exact H2_) | (have H2_ := (Option.bind_some _ _).symm.trans H; with_reducible exact H2_) | with_reducible exact H | (rw [hy163]; exact H) | exact H
 have Ny163 := zqi hy163
 clear hy163
 replace H := Option.bind_eq_some_iff.mp H
 obtain ⟨⟨t166, t167, t168, t169, t170, t171, t172, t173, t174⟩, A10, H⟩ := H
 replace H : (if t174 = true then (if (t166 == 4 && (t167 == 0 && (t168 == 4 && (t169 == 0 && (t170 == 0 && (t171 == 2 && (t172 == 14 && (t173 == 0)))))))) = true then ((relax_Covers.f t166 t167 t168 t169 t170 t171 t172 t173 4 0 5 0 0 6 6 0).bind fun t176 => (some t176)) else (none)) else (none)) = some r := H
 have A1 := zqi A10
 clear A10
 by_cases c2 : t174 = true
 ·
  subst c2
  have H1 : (if (t166 == 4 && (t167 == 0 && (t168 == 4 && (t169 == 0 && (t170 == 0 && (t171 == 2 && (t172 == 14 && (t173 == 0)))))))) = true then ((relax_Covers.f t166 t167 t168 t169 t170 t171 t172 t173 4 0 5 0 0 6 6 0).bind fun t176 => (some t176)) else (none)) = some r := by rw [if_pos rfl] at H; exact H
  clear H
  have H := H1
  clear H1
  by_cases c3 : (t166 == 4 && (t167 == 0 && (t168 == 4 && (t169 == 0 && (t170 == 0 && (t171 == 2 && (t172 == 14 && (t173 == 0)))))))) = true
  ·
   rw [if_pos c3] at H
   have c3b0 : (t166 == 4 && (t167 == 0 && (t168 == 4 && (t169 == 0 && (t170 == 0 && (t171 == 2 && (t172 == 14 && (t173 == 0)))))))) = true := c3
   (try (have c3b1 : decide (t166 = 4 && (t167 == 0 && (t168 == 4 && (t169 == 0 && (t170 == 0 && (t171 == 2 && (t172 == 14 && (t173 == 0)))))))) = true := by simpa using c3))
   (try (have c3b2 : (t166 == 4 && (t167 == 0 && (t168 == 4 && (t169 == 0 && (t170 == 0 && (t171 == 2 && (t172 == 14 && (t173 == 0)))))))) = true := by simpa using c3))
   clear c3
   replace H := Option.bind_eq_some_iff.mp H
   obtain ⟨t176, A40, H⟩ := H
   replace H : (some t176) = some r := H
   have A4 := zqi A40
   clear A40
   obtain rfl := Option.some.inj H
   go_enter Try.func20, Try.ntmps20
   go_wp2_with (first | ((with_reducible refine gate_dst (N := 6) rfl ?_); refine Kd.R_lit k40 _ 40 ?hg (N := 6) ?hd (xs := ([(⟨4, 0, 5, 0, 0, 6, 6, 0⟩ : S40), (⟨4, 0, 4, 0, 0, 10, 10, 0⟩ : S40)] : List (S40))) (inner := [.int .i64 4, .int .i64 0, .int .i64 5, .int .i64 0, .int .i64 0, .int .u64 6, .int .u64 6, .int .u64 0, .int .i64 4, .int .i64 0, .int .i64 4, .int .i64 0, .int .i64 0, .int .u64 10, .int .u64 10, .int .u64 0]) (ok := fun _ => True) (okp := fun _ => True) ?hr ?hp (fun _ hk => hk) trivial (Below.refl _ _) (Nat.le_refl _) (by simp) ?_; (case hd => rfl); (case hg => rfl); (case hr => first | (go_simp; done) | (go_simp; rfl)); (case hp => exact (Reps.c8 (show Kd.M k40 _ _ _ (⟨4, 0, 5, 0, 0, 6, 6, 0⟩ : S40) [.int .i64 4, .int .i64 0, .int .i64 5, .int .i64 0, .int .i64 0, .int .u64 6, .int .u64 6, .int .u64 0] from (k40_mkM _ _ _ (⟨4, 0, 5, 0, 0, 6, 6, 0⟩ : S40) )) (Reps.c8 (show Kd.M k40 _ _ _ (⟨4, 0, 4, 0, 0, 10, 10, 0⟩ : S40) [.int .i64 4, .int .i64 0, .int .i64 4, .int .i64 0, .int .i64 0, .int .u64 10, .int .u64 10, .int .u64 0] from (k40_mkM _ _ _ (⟨4, 0, 4, 0, 0, 10, 10, 0⟩ : S40) )) (Reps.none _ _)))); intro v164 w5 ho6 hb hg_ hnew_; clear hg_ hnew_; (first | rw [← Ny163.out] at ho6 | (simp only [Int.reduceToNat] at ho6; rw [← Ny163.out] at ho6)); have n0_ := zqi (Kd.R_lower ho6 (below_size (zqn HB.out))); have n1_ := zqi (below_step (zqn HB.out) hb); clear HB; have HO165 := n0_; have HB := n1_; clear n0_ n1_; clear hb ho6; obtain ⟨Ao7, co7, eo7⟩ := Kd.R_slice HO165.out; subst eo7) | ((with_reducible refine gate_callee (f := 35) rfl ?_); refine goesL_ (some 7) rfl rfl Try.func35 (by kernel_rfl) rfl #[.slice Ao7 y163.length co7] rfl (by (try simp only [List.map_toArray, List.map_cons, List.map_nil]); first | done | rfl | (simp only [List.length_drop, List.length_take]; rfl)) ?_; (with_reducible refine (relax_Join.calls _ _ y163 t166 t167 t168 t169 t170 t171 t172 t173 true _ ?side1 ?side2 A1.out).mono ?_); (case side1 => repeat (first | exact (Kd.R_reads' HO165.out).2.2 | (with_reducible refine Kd.C_alloc ?_ _) | (with_reducible refine Kd.C_drewN ?_ _) | (with_reducible refine Kd.C_drew ?_))); (case side2 => exact (Kd.R_reads' HO165.out).2.1); rintro e w8 ⟨rfl, hb⟩; refine ⟨_, rfl, ?_⟩; have n0_ := zqi (Kd.R_below (by (with_reducible repeat (first | apply Kd.R_alloc | apply Kd.R_drewN | apply Kd.R_drew)); exact HO165.out) hb); have n1_ := zqi (below_step (zqn HB.out) hb); clear HO165; clear HB; have HO165 := n0_; have HB := n1_; clear n0_ n1_; (try clear hb); (try clear hb2); (try clear hk); (try clear hi)) | ((with_reducible refine gate_dst (N := 1) rfl ?_); refine box_event ?hg (N := 1) ?hd (cs := #[.int .i64 0, .int .i64 0, .int .i64 0, .int .i64 0, .int .i64 0, .int .u64 0, .int .u64 0, .int .u64 0]) (t := 40) ?hr ?_; (case hd => rfl); (case hg => rfl); (case hr => first | (go_simp; done) | (go_simp; rfl)); intro gb175 hg w9 hbox hb; have n0_ := zqi (Kd.R_below (Kd.R_elderB (by (with_reducible repeat (first | apply Kd.R_alloc | apply Kd.R_drewN | apply Kd.R_drew)); exact HO165.out) gb175 (Nat.le_of_eq hg.symm)) hb); have n1_ := zqi (below_step (zqn HB.out) hb); have n2_ := zqi (hbox); have n3_ := zqi (zqo hg HB.out); have n4_ := zqi (zqo hg HB.out); clear HO165; clear HB; have HO165 := n0_; have HB := n1_; have BK175 := n2_; have GW175 := n3_; have GE175 := n4_; clear n0_ n1_ n2_ n3_ n4_; clear hb hbox hg; obtain ⟨hcz10_0, hcz10_1, hcz10_2, hcz10_3, hcz10_4, hcz10_5, hcz10_6, hcz10_7, hfz10_0, hfz10_1, hfz10_2, hfz10_3, hfz10_4, hfz10_5, hfz10_6, hfz10_7⟩ := zqz8 BK175.out) | (go_at_call 21; (with_reducible refine (relax_Covers.calls t166 t167 t168 t169 t170 t171 t172 t173 4 0 5 0 0 6 6 0 t176 _ A4.out).mono ?_); rintro e w11 ⟨rfl, hb⟩; have n0_ := zqi (Kd.R_below (by (with_reducible repeat (first | apply Kd.R_alloc | apply Kd.R_drewN | apply Kd.R_drew)); exact (Kd.R_mono (Kd.R_far (p := ⟨gb175, 7, none⟩) (Kd.R_far (p := ⟨gb175, 6, none⟩) (Kd.R_far (p := ⟨gb175, 5, none⟩) (Kd.R_far (p := ⟨gb175, 4, none⟩) (Kd.R_far (p := ⟨gb175, 3, none⟩) (Kd.R_far (p := ⟨gb175, 2, none⟩) (Kd.R_far (p := ⟨gb175, 1, none⟩) (Kd.R_far (p := ⟨gb175, 0, none⟩) (Kd.R_mono HO165.out (fun k_ hk => (⟨hk, hk.2⟩ : _ ∧ k_ ≠ gb175))) (fun _ hk => hk.2) (.int .i64 t166)) (fun _ hk => hk.2) (.int .i64 t167)) (fun _ hk => hk.2) (.int .i64 t168)) (fun _ hk => hk.2) (.int .i64 t169)) (fun _ hk => hk.2) (.int .i64 t170)) (fun _ hk => hk.2) (.int .u64 t171)) (fun _ hk => hk.2) (.int .u64 t172)) (fun _ hk => hk.2) (.int .u64 t173)) (fun _ h_ => h_.1))) hb); have n1_ := zqi (blk_below (g := gb175) (o := .cells #[.int .i64 t166, .int .i64 t167, .int .i64 t168, .int .i64 t169, .int .i64 t170, .int .u64 t171, .int .u64 t172, .int .u64 t173] 40 (0, 0)) (by exact zqC (blk_set (blk_set (blk_set (blk_set (blk_set (blk_set (blk_set (blk_set BK175.out 0 _) 1 _) 2 _) 3 _) 4 _) 5 _) 6 _) 7 _) (by simp only [List.setIfInBounds_toArray, List.set_cons_zero, List.set_cons_succ])) hb); have n2_ := zqi (below_step (zqn HB.out) hb); clear HO165; clear BK175; clear HB; have HO165 := n0_; have BK175 := n1_; have HB := n2_; clear n0_ n1_ n2_; (try clear hb); (try clear hb2); (try clear hk); (try clear hi)))
   go_ret
   exact ⟨by first | rfl | (simp [errW_none, errW_some] <;> rfl) | (simp [*, errW_none, errW_some] <;> rfl), by repeat (first | (with_reducible first | exact HB.out | apply zqg | apply zqf | apply zqh | refine below_set ?_ GE175.out) | exact HB.out)⟩
  ·
   rw [if_neg c3] at H
   exact absurd H (by simp)
 ·
  replace c2 := Bool.eq_false_iff.mpr c2
  subst c2
  have H1 : (none) = some r := by rw [if_neg (show ¬ (false = true) by decide)] at H; exact H
  clear H
  have H := H1
  clear H1
  exact absurd H (by simp)

/-! ### inst_between: function 34 -/
def inst_between.l0 : Nat → Int → Int → List Int → Int → Int → Option (Bool)
  | 0, _, _, _, _, _ => none
  | k + 1, x0, x1, x9, x10, x11 => if x11 < x10 then (if 0 ≤ x11 then (if x11 < (x9.length : Int) then (if (rd x9 x11) < x0 then (some false) else (if (rd x9 x11) > x1 then (some false) else (inst_between.l0 k x0 x1 x9 x10 (wrap64 (x11 + 1))))) else (none)) else (none)) else (some true)
def inst_between.f (k : Nat) (a0 : Int) (a1 : Int) (l2 : List Int) : Option (Bool) := inst_between.l0 k a0 a1 l2 (l2.length : Int) 0
theorem inst_between.mono_l : ∀ k, (∀ y0 y1 y2 y3 y4, LeO (inst_between.l0 k y0 y1 y2 y3 y4) (inst_between.l0 (k + 1) y0 y1 y2 y3 y4))
  | 0 => fun _ _ _ _ _ r h => by simp [inst_between.l0] at h
  | k + 1 => by
    have ih0 := inst_between.mono_l k
    · intro y0 y1 y2 y3 y4
      unfold inst_between.l0
      repeat' first
      | (with_reducible exact ih0 _ _ _ _ _)
      | (with_reducible exact LeO.refl _)
      | (with_reducible exact LeO.none _)
      | (with_reducible refine LeO.ite ?_ ?_)
      | (with_reducible refine LeO.bind ?_ (fun _ => ?_))
      | exact ih0 _ _ _ _ _
      | exact LeO.none _
      | refine LeO.ite ?_ ?_
      | refine LeO.bind ?_ (fun _ => ?_)
theorem inst_between.mono : ∀ a0 a1 a2 k, LeO (inst_between.f k a0 a1 a2) (inst_between.f (k + 1) a0 a1 a2) := by
  intro a0 a1 a2 k
  have ih0 := inst_between.mono_l k
  unfold inst_between.f
  repeat' first
      | (with_reducible exact ih0 _ _ _ _ _)
      | (with_reducible exact LeO.refl _)
      | (with_reducible exact LeO.none _)
      | (with_reducible refine LeO.ite ?_ ?_)
      | (with_reducible refine LeO.bind ?_ (fun _ => ?_))
      | exact ih0 _ _ _ _ _
      | exact LeO.none _
      | refine LeO.ite ?_ ?_
      | refine LeO.bind ?_ (fun _ => ?_)
set_option maxHeartbeats 8000000 in
set_option maxRecDepth 100000 in
theorem inst_between.calls (k : Nat) (a0 : Int) (a1 : Int) (A2 : Option Addr) (c2 : Nat) (l2 : List Int) (r : Bool) (w : World) (hr2 : Kd.C (Kd.int .i64) w A2 l2.length l2) (hc2 : l2.length ≤ c2) (h : inst_between.f k a0 a1 l2 = some r) :
    Calls Try.prog 34 #[.int .i64 a0, .int .i64 a1, .slice A2 l2.length c2] w fun e w' => e = .returned (.bool r) ∧ Drawn0 w w' := by
  have HR2 := Aside0.mk hr2
  have HC2 := Aside0.mk hc2
  clear hr2 hc2
  have H : (inst_between.l0 k a0 a1 l2 (l2.length : Int) 0) = some r := h
  clear h
  have H' := Aside0.mk H
  clear H
  go_enter Try.func34, Try.ntmps34
  go_wp2
  go_loopg [11] k (fun kq v11 w' => ∃ (x11_1 : Int), v11 = .int .i64 x11_1 ∧ Aside0 (inst_between.l0 kq a0 a1 l2 (l2.length : Int) x11_1 = some r) ∧ Aside0 (kq ≤ k) ∧ Drawn0 w w')
  case atStart => exact ⟨(0), (by first | rfl | (simp; done) | (simp [*]; done)), H', ⟨Nat.le_refl _⟩, by repeat (first | exact Drawn0.refl _ | apply Drawn0.step)⟩
  case round =>
    clear H'
    try clear c2
    try clear p2
    try clear c3
    obtain ⟨x11_1, rfl, HA, HK1, ⟨m1, rfl⟩⟩ := hrel
    cases gk with
    | zero => exact absurd HA.out (by simp [inst_between.l0])
    | succ k1 =>
      have H := HA.out
      clear HA
      simp only [inst_between.l0] at H
      by_cases c4 : x11_1 < (l2.length : Int)
      · rw [if_pos c4] at H
        have c4b0 : decide (x11_1 < (l2.length : Int)) = true := decide_eq_true c4
        clear c4
        by_cases c5 : 0 ≤ x11_1
        · rw [if_pos c5] at H
          have c5b0 : decide (0 ≤ x11_1) = true := decide_eq_true c5
          clear c5
          by_cases c6 : x11_1 < (l2.length : Int)
          · rw [if_pos c6] at H
            have c6b0 : decide (x11_1 < (l2.length : Int)) = true := decide_eq_true c6
            clear c6
            by_cases c7 : (rd l2 x11_1) < a0
            · rw [if_pos c7] at H
              have c7b0 : decide ((rd l2 x11_1) < a0) = true := decide_eq_true c7
              clear c7
              obtain rfl := Option.some.inj H
              have p177 : 0 ≤ (x11_1 : Int) := of_decide_eq_true (by first | (with_reducible assumption) | assumption)
              have q177 : x11_1 < (l2.length : Int) := of_decide_eq_true (by first | (with_reducible assumption) | assumption)
              obtain ⟨ad177, e177, hx177_0⟩ := Kd.at_int HR2.out x11_1 p177 q177
              cases e177
              replace p177 := eq_true p177
              replace q177 := eq_true q177
              go_wp2
              go_ret
              exact ⟨by first | rfl | (simp; done) | (simp [*]; done), by repeat (first | exact Drawn0.refl _ | apply Drawn0.step)⟩
            · rw [if_neg c7] at H
              have c7b0 : decide ((rd l2 x11_1) < a0) = false := decide_eq_false c7
              clear c7
              by_cases c8 : (rd l2 x11_1) > a1
              · rw [if_pos c8] at H
                have c8b0 : decide (a1 < (rd l2 x11_1)) = true := decide_eq_true c8
                clear c8
                obtain rfl := Option.some.inj H
                have p177 : 0 ≤ (x11_1 : Int) := of_decide_eq_true (by first | (with_reducible assumption) | assumption)
                have q177 : x11_1 < (l2.length : Int) := of_decide_eq_true (by first | (with_reducible assumption) | assumption)
                obtain ⟨ad177, e177, hx177_0⟩ := Kd.at_int HR2.out x11_1 p177 q177
                cases e177
                replace p177 := eq_true p177
                replace q177 := eq_true q177
                go_wp2
                go_ret
                exact ⟨by first | rfl | (simp; done) | (simp [*]; done), by repeat (first | exact Drawn0.refl _ | apply Drawn0.step)⟩
              · rw [if_neg c8] at H
                have c8b0 : decide (a1 < (rd l2 x11_1)) = false := decide_eq_false c8
                clear c8
                have H' := Aside0.mk H
                clear H
                have p177 : 0 ≤ (x11_1 : Int) := of_decide_eq_true (by first | (with_reducible assumption) | assumption)
                have q177 : x11_1 < (l2.length : Int) := of_decide_eq_true (by first | (with_reducible assumption) | assumption)
                obtain ⟨ad177, e177, hx177_0⟩ := Kd.at_int HR2.out x11_1 p177 q177
                cases e177
                replace p177 := eq_true p177
                replace q177 := eq_true q177
                go_wp2
                go_roundg k1
                case measure => have := HK1.out; omega
                case rel => exact ⟨(wrap64 (x11_1 + 1)), (by first | rfl | (simp; done) | (simp [*]; done)), H', ⟨by have := HK1.out; omega⟩, by repeat (first | exact Drawn0.refl _ | apply Drawn0.step)⟩
          · rw [if_neg c6] at H
            exact absurd H (by simp)
        · rw [if_neg c5] at H
          exact absurd H (by simp)
      · rw [if_neg c4] at H
        have c4b0 : decide (x11_1 < (l2.length : Int)) = false := decide_eq_false c4
        clear c4
        obtain rfl := Option.some.inj H
        go_wp2
        go_ret
        exact ⟨by first | rfl | (simp; done) | (simp [*]; done), by repeat (first | exact Drawn0.refl _ | apply Drawn0.step)⟩

end Go.Proofs.Ytjiammiihamkiaa.PB
