-- Printed for this claim by wip/tools/xprint.py over the kit's print; the contracts marked BY HAND are this session's own.
import Derived.Test.YtkcdpnigcbcalaaPAx0
import Derived.Test.YtkcdpnigcbcalaaPAx1
namespace Go.Proofs.Ytkcdpnigcbcalaa.PA
open Go.RowKit Go.Proofs.YtkcdpnigcbcalaaW.PrintWords Go.Proofs.YtkcdpnigcbcalaaW.PrintLast Go.Proofs.YtkcdpnigcbcalaaW.PrintMore
attribute [local go_sem] max2_int min2_int max_two min_two max_three min_three max_four min_four   -- for this text's walks alone
set_option linter.unusedVariables false
set_option linter.unusedSimpArgs false

attribute [local go_sem high] eqA24
-- NOT PRINTED: function 23 (relax_each)

/-! ### relax_Join: function 12, BY HAND -/
theorem hidI {p : Prop} (h : p) : Hid p := h
theorem below_put {g : Nat} {w W : World} (h : Below g w W) (i : Nat) (u : Value) : Below g w (W.setCell ⟨g, i, none⟩ u) := h.setCell (Nat.le_refl _) u
theorem at_world {P : Program} {c : Code} {Q : Exit → Act → World → Prop} {a : Act} {w : World} (F : World → Prop) (hF : F w) (h : ∀ W, F W → c.wp P Q a W) : c.wp P Q a w := h w hF
/-- A heap's cells. -/
def HeapAt (w : World) (g : Nat) (s : S24) (m : Int) (odd : Bool) : Prop :=
  w.cell? ⟨g, 0, none⟩ = some (.int .i64 s.f0) ∧ w.cell? ⟨g, 1, none⟩ = some (.int .i64 s.f1) ∧ w.cell? ⟨g, 2, none⟩ = some (.int .i64 s.f2) ∧ w.cell? ⟨g, 3, none⟩ = some (.int .i64 s.f3) ∧ w.cell? ⟨g, 4, none⟩ = some (.int .i64 s.f4) ∧ w.cell? ⟨g, 5, none⟩ = some (.int .u64 s.f5) ∧ w.cell? ⟨g, 6, none⟩ = some (.int .u64 s.f6) ∧ w.cell? ⟨g, 7, none⟩ = some (.int .u64 s.f7) ∧ w.cell? ⟨g, 8, none⟩ = some (.int .i64 m) ∧ w.cell? ⟨g, 9, none⟩ = some (.bool odd) ∧
  (∀ i, w.frozen? ⟨g, i, none⟩ = false) ∧ g < w.heap.size
/-- While one more is thrown on: the heap's cells, and the new one's. -/
def Mid (w : World) (g b : Nat) (s0 s1 s2 s3 s4 s5 s6 s7 m : Int) (odd : Bool) (t0 t1 t2 t3 t4 t5 t6 t7 : Int) (W : World) : Prop :=
  W.cell? ⟨g, 0, none⟩ = some (.int .i64 s0) ∧ W.cell? ⟨g, 1, none⟩ = some (.int .i64 s1) ∧ W.cell? ⟨g, 2, none⟩ = some (.int .i64 s2) ∧ W.cell? ⟨g, 3, none⟩ = some (.int .i64 s3) ∧ W.cell? ⟨g, 4, none⟩ = some (.int .i64 s4) ∧ W.cell? ⟨g, 5, none⟩ = some (.int .u64 s5) ∧ W.cell? ⟨g, 6, none⟩ = some (.int .u64 s6) ∧ W.cell? ⟨g, 7, none⟩ = some (.int .u64 s7) ∧ W.cell? ⟨g, 8, none⟩ = some (.int .i64 m) ∧ W.cell? ⟨g, 9, none⟩ = some (.bool odd) ∧
  W.cell? ⟨b, 0, none⟩ = some (.int .i64 t0) ∧ W.cell? ⟨b, 1, none⟩ = some (.int .i64 t1) ∧ W.cell? ⟨b, 2, none⟩ = some (.int .i64 t2) ∧ W.cell? ⟨b, 3, none⟩ = some (.int .i64 t3) ∧ W.cell? ⟨b, 4, none⟩ = some (.int .i64 t4) ∧ W.cell? ⟨b, 5, none⟩ = some (.int .u64 t5) ∧ W.cell? ⟨b, 6, none⟩ = some (.int .u64 t6) ∧ W.cell? ⟨b, 7, none⟩ = some (.int .u64 t7) ∧
  (∀ i, W.frozen? ⟨g, i, none⟩ = false) ∧ Below g w W ∧ g < b ∧ b < W.heap.size
/-- Two states thrown together. -/
def joinS (s t : S24) : S24 := ⟨s.f0, mn s.f1 t.f1, mn s.f2 t.f2, mn s.f3 t.f3, mn s.f4 t.f4, Go.bits .and .u64 s.f5 t.f5, Go.bits .or .u64 s.f6 t.f6, Go.bits .and .u64 s.f7 t.f7⟩
set_option maxHeartbeats 4000000 in
set_option maxRecDepth 100000 in
theorem heap_first (g : Nat) (s t : S24) (odd : Bool) (w : World) (hh : HeapAt w g s 0 odd) :
    Calls Try.prog 24 #[.pointer (some ⟨g, 0, none⟩), .agg #[.int .i64 t.f0, .int .i64 t.f1, .int .i64 t.f2, .int .i64 t.f3, .int .i64 t.f4, .int .u64 t.f5, .int .u64 t.f6, .int .u64 t.f7]] w fun e w' => e = .returned (.tuple #[]) ∧ HeapAt w' g t 1 odd ∧ Below g w w' := by
  obtain ⟨h0, h1, h2, h3, h4, h5, h6, h7, h8, h9, hf, hlt⟩ := hh
  have f0 := hf 0; have f1 := hf 1; have f2 := hf 2; have f3 := hf 3; have f4 := hf 4; have f5 := hf 5; have f6 := hf 6; have f7 := hf 7; have f8 := hf 8; have f9 := hf 9
  have HF := hidI hf
  clear hf
  obtain ⟨t0, t1, t2, t3, t4, t5, t6, t7⟩ := t
  go_enter Try.func24, Try.ntmps24
  go_wp2
  refine bodyPost_ret (results_none rfl _ _ _) rfl ?_
  refine ⟨rfl, ?_, ?_⟩
  · unfold HeapAt
    go_simp
    exact HF.out
  · refine Below.alloc ?_ (by simp; omega) _
    repeat (with_reducible refine below_put ?_ _ _)
    exact Below.refl _ _
set_option maxHeartbeats 16000000 in
set_option maxRecDepth 100000 in
theorem heap_more (g : Nat) (s t : S24) (m : Int) (odd : Bool) (w : World) (hm : 1 ≤ m) (hm2 : m ≤ 4611686018427387904) (hh : HeapAt w g s m odd) :
    Calls Try.prog 24 #[.pointer (some ⟨g, 0, none⟩), .agg #[.int .i64 t.f0, .int .i64 t.f1, .int .i64 t.f2, .int .i64 t.f3, .int .i64 t.f4, .int .u64 t.f5, .int .u64 t.f6, .int .u64 t.f7]] w fun e w' => e = .returned (.tuple #[]) ∧ HeapAt w' g (joinS s t) (m + 1) (odd || t.f0 != s.f0) ∧ Below g w w' := by
  obtain ⟨h0, h1, h2, h3, h4, h5, h6, h7, h8, h9, hf, hlt⟩ := hh
  obtain ⟨t0, t1, t2, t3, t4, t5, t6, t7⟩ := t
  obtain ⟨s0, s1, s2, s3, s4, s5, s6, s7⟩ := s
  have hne : (m + 1 == 1) = false := beq_eq_false_iff_ne.mpr (by omega)
  have f8 := hf 8
  have HF := hidI hf
  clear hf
  dsimp only at h0 h1 h2 h3 h4 h5 h6 h7
  obtain ⟨v1, q1⟩ : ∃ v, (if t1 < s1 then t1 else s1) = v := ⟨_, rfl⟩
  obtain ⟨v2, q2⟩ : ∃ v, (if t2 < s2 then t2 else s2) = v := ⟨_, rfl⟩
  obtain ⟨v3, q3⟩ : ∃ v, (if t3 < s3 then t3 else s3) = v := ⟨_, rfl⟩
  obtain ⟨v4, q4⟩ : ∃ v, (if t4 < s4 then t4 else s4) = v := ⟨_, rfl⟩
  obtain ⟨v5, q5⟩ : ∃ v, Go.bits .and .u64 s5 t5 = v := ⟨_, rfl⟩
  obtain ⟨v6, q6⟩ : ∃ v, Go.bits .or .u64 s6 t6 = v := ⟨_, rfl⟩
  obtain ⟨v7, q7⟩ : ∃ v, Go.bits .and .u64 s7 t7 = v := ⟨_, rfl⟩
  have QQ := hidI (⟨q1, q2, q3, q4, q5, q6, q7⟩ : _ ∧ _ ∧ _ ∧ _ ∧ _ ∧ _ ∧ _)
  clear q1 q2 q3 q4 q5 q6 q7
  go_enter Try.func24, Try.ntmps24
  go_wp2
  refine at_world (F := Mid w g w.heap.size s0 s1 s2 s3 s4 s5 s6 s7 (m + 1) odd t0 t1 t2 t3 t4 t5 t6 t7) ?_ ?_
  · exact ⟨by go_simp, by go_simp, by go_simp, by go_simp, by go_simp, by go_simp, by go_simp, by go_simp, by go_simp, by go_simp, by go_simp, by go_simp, by go_simp, by go_simp, by go_simp, by go_simp, by go_simp, by go_simp, fun i => by have := HF.out i; go_simp, by (refine Below.alloc ?_ (by simp; omega) _; (repeat (with_reducible refine below_put ?_ _ _)); exact Below.refl _ _), hlt, by first | omega | (go_simp; omega) | go_simp⟩
  rintro W1 ⟨c0, c1, c2, c3, c4, c5, c6, c7, c8, c9, d0, d1, d2, d3, d4, d5, d6, d7, hf, HB, hgb, hbs⟩
  generalize w.heap.size = b at *
  clear h0 h1 h2 h3 h4 h5 h6 h7 h8 h9 f8 HF
  obtain ⟨od, hod⟩ : ∃ q, (odd || t0 != s0) = q := ⟨_, rfl⟩
  have HOD := hidI hod
  clear hod
  cases odd with
  | true =>
    have HF1 := hidI hf
    have HB1 := hidI HB
    have f9 := hf 9
    clear hf HB
    as_aux_lemma =>
    go_region
    go_wp2
    refine at_world (F := Mid w g b s0 s1 s2 s3 s4 s5 s6 s7 (m + 1) true t0 t1 t2 t3 t4 t5 t6 t7) ?_ ?_
    · exact ⟨by go_simp, by go_simp, by go_simp, by go_simp, by go_simp, by go_simp, by go_simp, by go_simp, by go_simp, by go_simp, by go_simp, by go_simp, by go_simp, by go_simp, by go_simp, by go_simp, by go_simp, by go_simp, fun i => by have := HF1.out i; go_simp, by (have hz := HB1.out; refine Below.drew ?_; (repeat (with_reducible refine below_put ?_ _ _)); exact hz), by omega, by first | omega | (go_simp; omega) | go_simp⟩
    rintro W2 ⟨c0, c1, c2, c3, c4, c5, c6, c7, c8, c9, d0, d1, d2, d3, d4, d5, d6, d7, hf, HB, hgb, hbs⟩
    clear HF1 HB1 f9
    have HF1 := hidI hf
    have HB1 := hidI HB
    have f1 := hf 1
    have f2 := hf 2
    clear hf HB
    obtain ⟨q1, q2, q3, q4, q5, q6, q7⟩ := QQ.out
    as_aux_lemma =>
    go_region
    go_wp2
    refine at_world (F := Mid w g b s0 v1 v2 s3 s4 s5 s6 s7 (m + 1) true t0 t1 t2 t3 t4 t5 t6 t7) ?_ ?_
    · exact ⟨by go_simp, by go_simp, by go_simp, by go_simp, by go_simp, by go_simp, by go_simp, by go_simp, by go_simp, by go_simp, by go_simp, by go_simp, by go_simp, by go_simp, by go_simp, by go_simp, by go_simp, by go_simp, fun i => by have := HF1.out i; go_simp, by (have hz := HB1.out; refine Below.drew ?_; (repeat (with_reducible refine below_put ?_ _ _)); exact hz), by omega, by first | omega | (go_simp; omega) | go_simp⟩
    rintro W3 ⟨c0, c1, c2, c3, c4, c5, c6, c7, c8, c9, d0, d1, d2, d3, d4, d5, d6, d7, hf, HB, hgb, hbs⟩
    clear HF1 HB1 f1 f2
    clear q1 q2 q3 q4 q5 q6 q7
    have HF1 := hidI hf
    have HB1 := hidI HB
    have f3 := hf 3
    have f4 := hf 4
    clear hf HB
    obtain ⟨q1, q2, q3, q4, q5, q6, q7⟩ := QQ.out
    as_aux_lemma =>
    go_region
    go_wp2
    refine at_world (F := Mid w g b s0 v1 v2 v3 v4 s5 s6 s7 (m + 1) true t0 t1 t2 t3 t4 t5 t6 t7) ?_ ?_
    · exact ⟨by go_simp, by go_simp, by go_simp, by go_simp, by go_simp, by go_simp, by go_simp, by go_simp, by go_simp, by go_simp, by go_simp, by go_simp, by go_simp, by go_simp, by go_simp, by go_simp, by go_simp, by go_simp, fun i => by have := HF1.out i; go_simp, by (have hz := HB1.out; refine Below.drew ?_; (repeat (with_reducible refine below_put ?_ _ _)); exact hz), by omega, by first | omega | (go_simp; omega) | go_simp⟩
    rintro W4 ⟨c0, c1, c2, c3, c4, c5, c6, c7, c8, c9, d0, d1, d2, d3, d4, d5, d6, d7, hf, HB, hgb, hbs⟩
    clear HF1 HB1 f3 f4
    clear q1 q2 q3 q4 q5 q6 q7
    have HF1 := hidI hf
    have HB1 := hidI HB
    have f5 := hf 5
    have f7 := hf 7
    clear hf HB
    obtain ⟨q1, q2, q3, q4, q5, q6, q7⟩ := QQ.out
    as_aux_lemma =>
    go_region
    go_wp2
    refine at_world (F := Mid w g b s0 v1 v2 v3 v4 v5 s6 v7 (m + 1) true t0 t1 t2 t3 t4 t5 t6 t7) ?_ ?_
    · exact ⟨by go_simp, by go_simp, by go_simp, by go_simp, by go_simp, by go_simp, by go_simp, by go_simp, by go_simp, by go_simp, by go_simp, by go_simp, by go_simp, by go_simp, by go_simp, by go_simp, by go_simp, by go_simp, fun i => by have := HF1.out i; go_simp, by (have hz := HB1.out; refine Below.drew ?_; (repeat (with_reducible refine below_put ?_ _ _)); exact hz), by omega, by first | omega | (go_simp; omega) | go_simp⟩
    rintro W5 ⟨c0, c1, c2, c3, c4, c5, c6, c7, c8, c9, d0, d1, d2, d3, d4, d5, d6, d7, hf, HB, hgb, hbs⟩
    clear HF1 HB1 f5 f7
    clear q1 q2 q3 q4 q5 q6 q7
    have HF1 := hidI hf
    have HB1 := hidI HB
    have f6 := hf 6
    clear hf HB
    obtain ⟨q1, q2, q3, q4, q5, q6, q7⟩ := QQ.out
    as_aux_lemma =>
    go_region
    go_wp2
    go_end0
    refine ⟨rfl, ?_, ?_⟩
    · unfold HeapAt joinS mn
      simp only [q1, q2, q3, q4, q5, q6, q7]
      refine ⟨by go_simp, by go_simp, by go_simp, by go_simp, by go_simp, by go_simp, by go_simp, by go_simp, by go_simp, by go_simp, fun i => by have := HF1.out i; go_simp, by first | omega | (go_simp; omega) | go_simp⟩
    · (have hz := HB1.out; refine Below.drew ?_; (repeat (with_reducible refine below_put ?_ _ _)); exact hz)

  | false =>
    have HF1 := hidI hf
    have HB1 := hidI HB
    have f9 := hf 9
    clear hf HB
    have q0 : (t0 != s0) = od := by simpa using HOD.out
    as_aux_lemma =>
    go_region
    go_wp2
    refine at_world (F := Mid w g b s0 s1 s2 s3 s4 s5 s6 s7 (m + 1) od t0 t1 t2 t3 t4 t5 t6 t7) ?_ ?_
    · exact ⟨by go_simp, by go_simp, by go_simp, by go_simp, by go_simp, by go_simp, by go_simp, by go_simp, by go_simp, by go_simp, by go_simp, by go_simp, by go_simp, by go_simp, by go_simp, by go_simp, by go_simp, by go_simp, fun i => by have := HF1.out i; go_simp, by (have hz := HB1.out; refine Below.drew ?_; (repeat (with_reducible refine below_put ?_ _ _)); exact hz), by omega, by first | omega | (go_simp; omega) | go_simp⟩
    rintro W2 ⟨c0, c1, c2, c3, c4, c5, c6, c7, c8, c9, d0, d1, d2, d3, d4, d5, d6, d7, hf, HB, hgb, hbs⟩
    clear HF1 HB1 f9
    clear q0
    have HF1 := hidI hf
    have HB1 := hidI HB
    have f1 := hf 1
    have f2 := hf 2
    clear hf HB
    obtain ⟨q1, q2, q3, q4, q5, q6, q7⟩ := QQ.out
    as_aux_lemma =>
    go_region
    go_wp2
    refine at_world (F := Mid w g b s0 v1 v2 s3 s4 s5 s6 s7 (m + 1) od t0 t1 t2 t3 t4 t5 t6 t7) ?_ ?_
    · exact ⟨by go_simp, by go_simp, by go_simp, by go_simp, by go_simp, by go_simp, by go_simp, by go_simp, by go_simp, by go_simp, by go_simp, by go_simp, by go_simp, by go_simp, by go_simp, by go_simp, by go_simp, by go_simp, fun i => by have := HF1.out i; go_simp, by (have hz := HB1.out; refine Below.drew ?_; (repeat (with_reducible refine below_put ?_ _ _)); exact hz), by omega, by first | omega | (go_simp; omega) | go_simp⟩
    rintro W3 ⟨c0, c1, c2, c3, c4, c5, c6, c7, c8, c9, d0, d1, d2, d3, d4, d5, d6, d7, hf, HB, hgb, hbs⟩
    clear HF1 HB1 f1 f2
    clear q1 q2 q3 q4 q5 q6 q7
    have HF1 := hidI hf
    have HB1 := hidI HB
    have f3 := hf 3
    have f4 := hf 4
    clear hf HB
    obtain ⟨q1, q2, q3, q4, q5, q6, q7⟩ := QQ.out
    as_aux_lemma =>
    go_region
    go_wp2
    refine at_world (F := Mid w g b s0 v1 v2 v3 v4 s5 s6 s7 (m + 1) od t0 t1 t2 t3 t4 t5 t6 t7) ?_ ?_
    · exact ⟨by go_simp, by go_simp, by go_simp, by go_simp, by go_simp, by go_simp, by go_simp, by go_simp, by go_simp, by go_simp, by go_simp, by go_simp, by go_simp, by go_simp, by go_simp, by go_simp, by go_simp, by go_simp, fun i => by have := HF1.out i; go_simp, by (have hz := HB1.out; refine Below.drew ?_; (repeat (with_reducible refine below_put ?_ _ _)); exact hz), by omega, by first | omega | (go_simp; omega) | go_simp⟩
    rintro W4 ⟨c0, c1, c2, c3, c4, c5, c6, c7, c8, c9, d0, d1, d2, d3, d4, d5, d6, d7, hf, HB, hgb, hbs⟩
    clear HF1 HB1 f3 f4
    clear q1 q2 q3 q4 q5 q6 q7
    have HF1 := hidI hf
    have HB1 := hidI HB
    have f5 := hf 5
    have f7 := hf 7
    clear hf HB
    obtain ⟨q1, q2, q3, q4, q5, q6, q7⟩ := QQ.out
    as_aux_lemma =>
    go_region
    go_wp2
    refine at_world (F := Mid w g b s0 v1 v2 v3 v4 v5 s6 v7 (m + 1) od t0 t1 t2 t3 t4 t5 t6 t7) ?_ ?_
    · exact ⟨by go_simp, by go_simp, by go_simp, by go_simp, by go_simp, by go_simp, by go_simp, by go_simp, by go_simp, by go_simp, by go_simp, by go_simp, by go_simp, by go_simp, by go_simp, by go_simp, by go_simp, by go_simp, fun i => by have := HF1.out i; go_simp, by (have hz := HB1.out; refine Below.drew ?_; (repeat (with_reducible refine below_put ?_ _ _)); exact hz), by omega, by first | omega | (go_simp; omega) | go_simp⟩
    rintro W5 ⟨c0, c1, c2, c3, c4, c5, c6, c7, c8, c9, d0, d1, d2, d3, d4, d5, d6, d7, hf, HB, hgb, hbs⟩
    clear HF1 HB1 f5 f7
    clear q1 q2 q3 q4 q5 q6 q7
    have HF1 := hidI hf
    have HB1 := hidI HB
    have f6 := hf 6
    clear hf HB
    obtain ⟨q1, q2, q3, q4, q5, q6, q7⟩ := QQ.out
    as_aux_lemma =>
    go_region
    go_wp2
    go_end0
    refine ⟨rfl, ?_, ?_⟩
    · unfold HeapAt joinS mn
      simp only [q1, q2, q3, q4, q5, q6, q7]
      refine ⟨by go_simp, by go_simp, by go_simp, by go_simp, by go_simp, by go_simp, by go_simp, by go_simp, by go_simp, by rw [HOD.out]; go_simp, fun i => by have := HF1.out i; go_simp, by first | omega | (go_simp; omega) | go_simp⟩
    · (have hz := HB1.out; refine Below.drew ?_; (repeat (with_reducible refine below_put ?_ _ _)); exact hz)


theorem heapAt_alloc {w : World} {g : Nat} {s : S24} {m : Int} {odd : Bool} (h : HeapAt w g s m odd) (o : Obj) : HeapAt (w.alloc o) g s m odd := by
  obtain ⟨h0, h1, h2, h3, h4, h5, h6, h7, h8, h9, hf, hlt⟩ := h
  have hb : Below w.heap.size w (w.alloc o) := (Below.refl _ _).alloc (Nat.le_refl _) o
  have hc : ∀ i, (w.alloc o).cell? ⟨g, i, none⟩ = w.cell? ⟨g, i, none⟩ := fun i => hb.cell (p := ⟨g, i, none⟩) hlt
  exact ⟨(hc 0).trans h0, (hc 1).trans h1, (hc 2).trans h2, (hc 3).trans h3, (hc 4).trans h4, (hc 5).trans h5, (hc 6).trans h6, (hc 7).trans h7, (hc 8).trans h8, (hc 9).trans h9, fun i => (hb.frozen (p := ⟨g, i, none⟩) hlt).trans (hf i), by simp; omega⟩
/-- The heap behind one more. -/
def stepH (h : S24 × Int × Bool) (t : S24) : S24 × Int × Bool := if h.2.1 = 0 then (t, 1, h.2.2) else (joinS h.1 t, h.2.1 + 1, h.2.2 || t.f0 != h.1.f0)
theorem heap_step (g : Nat) (h : S24 × Int × Bool) (t : S24) (w : World) (hm : 0 ≤ h.2.1) (hm2 : h.2.1 ≤ 4611686018427387904) (hh : HeapAt w g h.1 h.2.1 h.2.2) :
    Calls Try.prog 24 #[.pointer (some ⟨g, 0, none⟩), .agg #[.int .i64 t.f0, .int .i64 t.f1, .int .i64 t.f2, .int .i64 t.f3, .int .i64 t.f4, .int .u64 t.f5, .int .u64 t.f6, .int .u64 t.f7]] w fun e w' => e = .returned (.tuple #[]) ∧ HeapAt w' g (stepH h t).1 (stepH h t).2.1 (stepH h t).2.2 ∧ Below g w w' := by
  obtain ⟨s, m, odd⟩ := h
  dsimp only at hm hm2 hh
  unfold stepH
  by_cases h0 : m = 0
  · subst h0
    rw [if_pos rfl]
    exact heap_first g s t odd w hh
  · rw [if_neg h0]
    exact heap_more g s t m odd w (by omega) hm2 hh
theorem stepH_count (l : List S24) : ∀ h : S24 × Int × Bool, 0 ≤ h.2.1 → (l.foldl stepH h).2.1 = h.2.1 + l.length := by
  induction l with
  | nil => intro h _; simp
  | cons t l ih =>
    intro h hm
    have e : (stepH h t).2.1 = h.2.1 + 1 := by unfold stepH; split <;> simp <;> omega
    rw [List.foldl_cons, ih _ (by omega), e, List.length_cons]; omega
set_option maxHeartbeats 4000000 in
theorem each_calls (g : Nat) (A0 : Option Addr) (c0 : Nat) (l0 : List S24) (s : S24) (w0 w : World) (hr0 : Kd.C k24 w0 A0 l0.length l0) (hlen : l0.length ≤ 1000000000) (hB : Below w0.heap.size w0 w) (hg : w0.heap.size ≤ g) (hh : HeapAt w g s 0 false) :
    Calls Try.prog 23 #[.func (.func 24) #[.pointer (some ⟨g, 0, none⟩)] #[], .slice A0 l0.length c0] w fun e w' => e = .returned (.tuple #[]) ∧ HeapAt w' g (l0.foldl stepH (s, 0, false)).1 (l0.length : Int) (l0.foldl stepH (s, 0, false)).2.2 ∧ Below g w w' := by
  have HR := hidI hr0
  have HB0 := hidI hB
  have HH := hidI hh
  clear hr0 hB hh
  go_enter Try.func23, Try.ntmps23
  go_wp2
  go_loopw [8] (fun i wr => ∃ k : Nat, k ≤ l0.length ∧ i = .int .i64 k ∧ Hid (HeapAt wr g ((l0.take k).foldl stepH (s, 0, false)).1 (k : Int) ((l0.take k).foldl stepH (s, 0, false)).2.2) ∧ Hid (Below g w wr)) (fun i _ => l0.length - (intOf i).toNat)
  case atStart => exact ⟨0, Nat.zero_le _, rfl, HH, Below.refl _ _⟩
  case round =>
    obtain ⟨k, hk, rfl, HK, HBK⟩ := hrel
    by_cases hlt : k < l0.length
    · have q := at_T24 HR.out (k : Int) (by omega) (by omega)
      obtain ⟨ad, hA, e0, e1, e2, e3, e4, e5, e6, e7⟩ := q
      have HBB : Below w0.heap.size w0 wr := HB0.out.trans (HBK.out.mono hg)
      simp only [Int.toNat_natCast] at e0 e1 e2 e3 e4 e5 e6 e7
      replace e0 := (HBB.cell (World.block_lt_of_cell? w0 _ e0)).trans e0
      replace e1 := (HBB.cell (World.block_lt_of_cell? w0 _ e1)).trans e1
      replace e2 := (HBB.cell (World.block_lt_of_cell? w0 _ e2)).trans e2
      replace e3 := (HBB.cell (World.block_lt_of_cell? w0 _ e3)).trans e3
      replace e4 := (HBB.cell (World.block_lt_of_cell? w0 _ e4)).trans e4
      replace e5 := (HBB.cell (World.block_lt_of_cell? w0 _ e5)).trans e5
      replace e6 := (HBB.cell (World.block_lt_of_cell? w0 _ e6)).trans e6
      replace e7 := (HBB.cell (World.block_lt_of_cell? w0 _ e7)).trans e7
      have hcount := stepH_count (l0.take k) (s, 0, false) (by simp)
      have hst : (l0.take (k + 1)).foldl stepH (s, 0, false) = stepH ((l0.take k).foldl stepH (s, 0, false)) (rd_T24 l0 (k : Int)) := by
        rw [List.take_succ_eq_append_getElem hlt, List.foldl_append]
        have : rd_T24 l0 (k : Int) = l0[k] := by unfold rd_T24; simp [hlt]
        rw [this]; rfl
      have HC := hidI (show ((l0.take k).foldl stepH (s, 0, false)).2.1 = (k : Int) by rw [hcount]; simp; omega)
      have HS := hidI hst
      clear hcount hst HBB
      subst hA
      generalize rd_T24 l0 (k : Int) = t at *
      generalize (l0.take k).foldl stepH (s, 0, false) = h at *
      go_wp2_with fail
      refine (heap_step g h t _ (by rw [HC.out]; omega) (by rw [HC.out]; omega) (by rw [HC.out]; exact heapAt_alloc HK.out _)).mono ?_
      rintro e w' ⟨rfl, hH, hb⟩
      have hH2 := hidI hH
      have hb2 := hidI (show Below g w w' from (HBK.out.alloc (by have := HK.out.2.2.2.2.2.2.2.2.2.2.2; omega) _).trans hb)
      clear hH hb
      go_wp2
      go_roundw
      case rel =>
        refine ⟨k + 1, by omega, by go_num, ?_, hb2.out⟩
        rw [HS.out]
        have := hH2.out
        rwa [show (stepH h t).2.1 = ((k + 1 : Nat) : Int) by unfold stepH; rw [HC.out]; split <;> simp <;> omega] at this
      case measure => simp [intOf]; omega
    · go_wp2
      go_end0
      have hk2 : k = l0.length := by omega
      subst hk2
      refine ⟨rfl, ?_, HBK.out⟩
      have := HK.out
      rwa [List.take_length] at this

def zeroS : S24 := ⟨0, 0, 0, 0, 0, 0, 0, 0⟩
def relax_Join.f (l0 : List S24) : Option (Int × Int × Int × Int × Int × Int × Int × Int × Bool) :=
  if l0.length ≤ 1000000000 then (if l0.length = 0 then some (0, 0, 0, 0, 0, 0, 0, 0, false) else if (l0.foldl stepH (zeroS, 0, false)).2.2 = true then some (0, 0, 0, 0, 0, 0, 0, 0, false) else
    some ((l0.foldl stepH (zeroS, 0, false)).1.f0, (l0.foldl stepH (zeroS, 0, false)).1.f1, (l0.foldl stepH (zeroS, 0, false)).1.f2, (l0.foldl stepH (zeroS, 0, false)).1.f3, (l0.foldl stepH (zeroS, 0, false)).1.f4, (l0.foldl stepH (zeroS, 0, false)).1.f5, (l0.foldl stepH (zeroS, 0, false)).1.f6, (l0.foldl stepH (zeroS, 0, false)).1.f7, true)) else none
theorem heapAt_new (w : World) : HeapAt (w.alloc (.cells #[.int .i64 0, .int .i64 0, .int .i64 0, .int .i64 0, .int .i64 0, .int .u64 0, .int .u64 0, .int .u64 0, .int .i64 0, .bool false] 46)) w.heap.size zeroS 0 false := by
  unfold HeapAt zeroS
  refine ⟨by go_simp, by go_simp, by go_simp, by go_simp, by go_simp, by go_simp, by go_simp, by go_simp, by go_simp, by go_simp, fun i => ?_, by simp⟩
  have e : ∀ o : Obj, (w.alloc o).heap[w.heap.size]? = some o := fun o => by show (w.heap.push _)[w.heap.size]? = _; simp
  simp only [World.frozen?, e]
  simp
set_option maxHeartbeats 8000000 in
set_option maxRecDepth 100000 in
theorem relax_Join.calls (A0 : Option Addr) (c0 : Nat) (l0 : List S24) (r1 r2 r3 r4 r5 r6 r7 r8 : Int) (r9 : Bool) (w : World) (hr0 : Kd.C k24 w A0 l0.length l0) (hc0 : l0.length ≤ c0) (h : relax_Join.f l0 = some (r1, r2, r3, r4, r5, r6, r7, r8, r9)) :
    Calls Try.prog 12 #[.slice A0 l0.length c0] w fun e w' => e = .returned (.tuple #[.agg #[.int .i64 r1, .int .i64 r2, .int .i64 r3, .int .i64 r4, .int .i64 r5, .int .u64 r6, .int .u64 r7, .int .u64 r8], .bool r9]) ∧ Below w.heap.size w w' := by
  unfold relax_Join.f at h
  have HR := hidI hr0
  clear hr0 hc0
  by_cases hlen : l0.length ≤ 1000000000
  · rw [if_pos hlen] at h
    generalize hfold : l0.foldl stepH (zeroS, 0, false) = q at *
    obtain ⟨s, m, odd⟩ := q
    dsimp only at h
    have HF := hidI hfold
    have H := hidI h
    clear hfold h
    go_enter Try.func12, Try.ntmps12
    go_wp2_with fail
    refine (each_calls (w.heap.size + 1) A0 c0 l0 zeroS w _ HR.out hlen ?_ (by omega) ?_).mono ?_
    · exact ((Below.refl _ _).alloc (Nat.le_refl _) _).alloc (by simp) _
    · have := heapAt_new (w.alloc (.cells #[.int .i64 0, .int .i64 0, .int .i64 0, .int .i64 0, .int .i64 0, .int .u64 0, .int .u64 0, .int .u64 0] 24))
      simpa using this
    rintro e w1 ⟨rfl, hH, hb⟩
    rw [HF.out] at hH
    obtain ⟨h0, h1, h2, h3, h4, h5, h6, h7, h8, h9, hf, hlt⟩ := hH
    dsimp only at h0 h1 h2 h3 h4 h5 h6 h7 h9
    have HB := hidI (show Below w.heap.size w w1 from (((Below.refl _ _).alloc (Nat.le_refl _) _).alloc (by simp) _).trans (hb.mono (by omega)))
    have z0 : w1.cell? ⟨w.heap.size, 0, none⟩ = some (.int .i64 0) := (hb.cell (p := ⟨w.heap.size, 0, none⟩) (by show w.heap.size < w.heap.size + 1; omega)).trans (by go_simp)
    have y0 : w1.frozen? ⟨w.heap.size, 0, none⟩ = false := (hb.frozen (p := ⟨w.heap.size, 0, none⟩) (by show w.heap.size < w.heap.size + 1; omega)).trans (by go_simp)
    have z1 : w1.cell? ⟨w.heap.size, 1, none⟩ = some (.int .i64 0) := (hb.cell (p := ⟨w.heap.size, 1, none⟩) (by show w.heap.size < w.heap.size + 1; omega)).trans (by go_simp)
    have y1 : w1.frozen? ⟨w.heap.size, 1, none⟩ = false := (hb.frozen (p := ⟨w.heap.size, 1, none⟩) (by show w.heap.size < w.heap.size + 1; omega)).trans (by go_simp)
    have z2 : w1.cell? ⟨w.heap.size, 2, none⟩ = some (.int .i64 0) := (hb.cell (p := ⟨w.heap.size, 2, none⟩) (by show w.heap.size < w.heap.size + 1; omega)).trans (by go_simp)
    have y2 : w1.frozen? ⟨w.heap.size, 2, none⟩ = false := (hb.frozen (p := ⟨w.heap.size, 2, none⟩) (by show w.heap.size < w.heap.size + 1; omega)).trans (by go_simp)
    have z3 : w1.cell? ⟨w.heap.size, 3, none⟩ = some (.int .i64 0) := (hb.cell (p := ⟨w.heap.size, 3, none⟩) (by show w.heap.size < w.heap.size + 1; omega)).trans (by go_simp)
    have y3 : w1.frozen? ⟨w.heap.size, 3, none⟩ = false := (hb.frozen (p := ⟨w.heap.size, 3, none⟩) (by show w.heap.size < w.heap.size + 1; omega)).trans (by go_simp)
    have z4 : w1.cell? ⟨w.heap.size, 4, none⟩ = some (.int .i64 0) := (hb.cell (p := ⟨w.heap.size, 4, none⟩) (by show w.heap.size < w.heap.size + 1; omega)).trans (by go_simp)
    have y4 : w1.frozen? ⟨w.heap.size, 4, none⟩ = false := (hb.frozen (p := ⟨w.heap.size, 4, none⟩) (by show w.heap.size < w.heap.size + 1; omega)).trans (by go_simp)
    have z5 : w1.cell? ⟨w.heap.size, 5, none⟩ = some (.int .u64 0) := (hb.cell (p := ⟨w.heap.size, 5, none⟩) (by show w.heap.size < w.heap.size + 1; omega)).trans (by go_simp)
    have y5 : w1.frozen? ⟨w.heap.size, 5, none⟩ = false := (hb.frozen (p := ⟨w.heap.size, 5, none⟩) (by show w.heap.size < w.heap.size + 1; omega)).trans (by go_simp)
    have z6 : w1.cell? ⟨w.heap.size, 6, none⟩ = some (.int .u64 0) := (hb.cell (p := ⟨w.heap.size, 6, none⟩) (by show w.heap.size < w.heap.size + 1; omega)).trans (by go_simp)
    have y6 : w1.frozen? ⟨w.heap.size, 6, none⟩ = false := (hb.frozen (p := ⟨w.heap.size, 6, none⟩) (by show w.heap.size < w.heap.size + 1; omega)).trans (by go_simp)
    have z7 : w1.cell? ⟨w.heap.size, 7, none⟩ = some (.int .u64 0) := (hb.cell (p := ⟨w.heap.size, 7, none⟩) (by show w.heap.size < w.heap.size + 1; omega)).trans (by go_simp)
    have y7 : w1.frozen? ⟨w.heap.size, 7, none⟩ = false := (hb.frozen (p := ⟨w.heap.size, 7, none⟩) (by show w.heap.size < w.heap.size + 1; omega)).trans (by go_simp)
    clear hb
    have HFF := hidI hf
    clear hf
    by_cases hl : l0.length = 0
    · have hl2 : ((l0.length : Int) == 0) = true := by rw [hl]; rfl
      have HL := hidI hl
      clear hl
      go_wp2
      have h := H.out
      rw [if_pos HL.out] at h
      simp only [Option.some.injEq, Prod.mk.injEq] at h
      obtain ⟨rfl, rfl, rfl, rfl, rfl, rfl, rfl, rfl, rfl⟩ := h
      refine bodyPost_ret (v := .tuple #[.agg #[.int .i64 0, .int .i64 0, .int .i64 0, .int .i64 0, .int .i64 0, .int .u64 0, .int .u64 0, .int .u64 0], .bool false]) ?_ rfl ⟨rfl, ?_⟩
      · (simp only [results, Try.results12]; go_simp)
      · have hz := HB.out
        (repeat (with_reducible refine below_put ?_ _ _))
        exact hz
    · have hl2 : ((l0.length : Int) == 0) = false := beq_eq_false_iff_ne.mpr (by omega)
      have HL := hidI hl
      clear hl
      cases odd with
      | true =>
        go_wp2
        have h := H.out
        rw [if_neg HL.out] at h
        simp only [if_true, Option.some.injEq, Prod.mk.injEq] at h
        obtain ⟨rfl, rfl, rfl, rfl, rfl, rfl, rfl, rfl, rfl⟩ := h
        refine bodyPost_ret (v := .tuple #[.agg #[.int .i64 0, .int .i64 0, .int .i64 0, .int .i64 0, .int .i64 0, .int .u64 0, .int .u64 0, .int .u64 0], .bool false]) ?_ rfl ⟨rfl, ?_⟩
        · (simp only [results, Try.results12]; go_simp)
        · have hz := HB.out
          (repeat (with_reducible refine below_put ?_ _ _))
          exact hz
      | false =>
        go_wp2
        have h := H.out
        rw [if_neg HL.out, if_neg (by simp)] at h
        simp only [Option.some.injEq, Prod.mk.injEq] at h
        obtain ⟨rfl, rfl, rfl, rfl, rfl, rfl, rfl, rfl, rfl⟩ := h
        refine bodyPost_ret (v := .tuple #[.agg #[.int .i64 s.f0, .int .i64 s.f1, .int .i64 s.f2, .int .i64 s.f3, .int .i64 s.f4, .int .u64 s.f5, .int .u64 s.f6, .int .u64 s.f7], .bool true]) ?_ rfl ⟨rfl, ?_⟩
        · (simp only [results, Try.results12]; go_simp)
        · have hz := HB.out
          (repeat (with_reducible refine below_put ?_ _ _))
          exact hz
  · rw [if_neg hlen] at h
    exact absurd h (by simp)

/-! ### set_Within: function 28 -/
def set_Within.f (a0 : Int) (a1 : Int) : Option (Bool) := some ((Go.bits .andNot .u64 a0 a1) == 0)
set_option maxHeartbeats 8000000 in
set_option maxRecDepth 100000 in
theorem set_Within.calls (a0 : Int) (a1 : Int) (r : Bool) (w : World) (h : set_Within.f a0 a1 = some r) :
    Calls Try.prog 28 #[.int .u64 a0, .int .u64 a1] w fun e w' => e = .returned (.bool r) ∧ Drawn0 w w' := by
  have H : (some ((Go.bits .andNot .u64 a0 a1) == 0)) = some r := h
  clear h
  obtain rfl := Option.some.inj H
  go_enter Try.func28, Try.ntmps28
  go_wp2
  go_ret
  exact ⟨by first | rfl | (simp; done) | (simp [*]; done), by repeat (first | exact Drawn0.refl _ | apply Drawn0.step)⟩

/-! ### relax_Covers: function 14 -/
def relax_Covers.f (a0_0 : Int) (a0_1 : Int) (a0_2 : Int) (a0_3 : Int) (a0_4 : Int) (a0_5 : Int) (a0_6 : Int) (a0_7 : Int) (a1_0 : Int) (a1_1 : Int) (a1_2 : Int) (a1_3 : Int) (a1_4 : Int) (a1_5 : Int) (a1_6 : Int) (a1_7 : Int) : Option (Bool) := if a0_0 = a1_0 then ((set_Within.f a0_5 a1_5).bind fun t103 => (if t103 = true then ((set_Within.f a0_7 a1_7).bind fun t104 => (if t104 = true then ((set_Within.f a1_6 a0_6).bind fun t105 => (if t105 = true then (if a0_1 ≤ a1_1 then (if a0_2 ≤ a1_2 then (if a0_3 ≤ a1_3 then (some (decide (a0_4 ≤ a1_4))) else (some false)) else (some false)) else (some false)) else (some false))) else (some false))) else (some false))) else (some false)
set_option maxHeartbeats 8000000 in
set_option maxRecDepth 100000 in
theorem relax_Covers.calls (a0_0 : Int) (a0_1 : Int) (a0_2 : Int) (a0_3 : Int) (a0_4 : Int) (a0_5 : Int) (a0_6 : Int) (a0_7 : Int) (a1_0 : Int) (a1_1 : Int) (a1_2 : Int) (a1_3 : Int) (a1_4 : Int) (a1_5 : Int) (a1_6 : Int) (a1_7 : Int) (r : Bool) (w : World) (h : relax_Covers.f a0_0 a0_1 a0_2 a0_3 a0_4 a0_5 a0_6 a0_7 a1_0 a1_1 a1_2 a1_3 a1_4 a1_5 a1_6 a1_7 = some r) :
    Calls Try.prog 14 #[.agg #[.int .i64 a0_0, .int .i64 a0_1, .int .i64 a0_2, .int .i64 a0_3, .int .i64 a0_4, .int .u64 a0_5, .int .u64 a0_6, .int .u64 a0_7], .agg #[.int .i64 a1_0, .int .i64 a1_1, .int .i64 a1_2, .int .i64 a1_3, .int .i64 a1_4, .int .u64 a1_5, .int .u64 a1_6, .int .u64 a1_7]] w fun e w' => e = .returned (.bool r) ∧ Below w.heap.size w w' := by
  have hu24 := Try.underlying24
  have HB := Aside0.mk (Below.refl w.heap.size w)
  have H : (if a0_0 = a1_0 then ((set_Within.f a0_5 a1_5).bind fun t103 => (if t103 = true then ((set_Within.f a0_7 a1_7).bind fun t104 => (if t104 = true then ((set_Within.f a1_6 a0_6).bind fun t105 => (if t105 = true then (if a0_1 ≤ a1_1 then (if a0_2 ≤ a1_2 then (if a0_3 ≤ a1_3 then (some (decide (a0_4 ≤ a1_4))) else (some false)) else (some false)) else (some false)) else (some false))) else (some false))) else (some false))) else (some false)) = some r := h
  clear h
  by_cases c3 : a0_0 = a1_0
  · rw [if_pos c3] at H
    have c3b0 : (a0_0 == a1_0) = true := beq_iff_eq.mpr c3
    have c3b1 : (a0_0 != a1_0) = false := bne_eq_false_iff_eq.mpr c3
    clear c3
    replace H := Option.bind_eq_some_iff.mp H
    obtain ⟨t103, A40, H⟩ := H
    replace H : (if t103 = true then ((set_Within.f a0_7 a1_7).bind fun t104 => (if t104 = true then ((set_Within.f a1_6 a0_6).bind fun t105 => (if t105 = true then (if a0_1 ≤ a1_1 then (if a0_2 ≤ a1_2 then (if a0_3 ≤ a1_3 then (some (decide (a0_4 ≤ a1_4))) else (some false)) else (some false)) else (some false)) else (some false))) else (some false))) else (some false)) = some r := H
    have A4 := Aside0.mk A40
    clear A40
    by_cases c5 : t103 = true
    · subst c5
      have H1 : ((set_Within.f a0_7 a1_7).bind fun t104 => (if t104 = true then ((set_Within.f a1_6 a0_6).bind fun t105 => (if t105 = true then (if a0_1 ≤ a1_1 then (if a0_2 ≤ a1_2 then (if a0_3 ≤ a1_3 then (some (decide (a0_4 ≤ a1_4))) else (some false)) else (some false)) else (some false)) else (some false))) else (some false))) = some r := by rw [if_pos rfl] at H; exact H
      clear H
      have H := H1
      clear H1
      replace H := Option.bind_eq_some_iff.mp H
      obtain ⟨t104, A60, H⟩ := H
      replace H : (if t104 = true then ((set_Within.f a1_6 a0_6).bind fun t105 => (if t105 = true then (if a0_1 ≤ a1_1 then (if a0_2 ≤ a1_2 then (if a0_3 ≤ a1_3 then (some (decide (a0_4 ≤ a1_4))) else (some false)) else (some false)) else (some false)) else (some false))) else (some false)) = some r := H
      have A6 := Aside0.mk A60
      clear A60
      by_cases c7 : t104 = true
      · subst c7
        have H1 : ((set_Within.f a1_6 a0_6).bind fun t105 => (if t105 = true then (if a0_1 ≤ a1_1 then (if a0_2 ≤ a1_2 then (if a0_3 ≤ a1_3 then (some (decide (a0_4 ≤ a1_4))) else (some false)) else (some false)) else (some false)) else (some false))) = some r := by rw [if_pos rfl] at H; exact H
        clear H
        have H := H1
        clear H1
        replace H := Option.bind_eq_some_iff.mp H
        obtain ⟨t105, A80, H⟩ := H
        replace H : (if t105 = true then (if a0_1 ≤ a1_1 then (if a0_2 ≤ a1_2 then (if a0_3 ≤ a1_3 then (some (decide (a0_4 ≤ a1_4))) else (some false)) else (some false)) else (some false)) else (some false)) = some r := H
        have A8 := Aside0.mk A80
        clear A80
        by_cases c9 : t105 = true
        · subst c9
          have H1 : (if a0_1 ≤ a1_1 then (if a0_2 ≤ a1_2 then (if a0_3 ≤ a1_3 then (some (decide (a0_4 ≤ a1_4))) else (some false)) else (some false)) else (some false)) = some r := by rw [if_pos rfl] at H; exact H
          clear H
          have H := H1
          clear H1
          by_cases c10 : a0_1 ≤ a1_1
          · rw [if_pos c10] at H
            have c10b0 : decide (a0_1 ≤ a1_1) = true := decide_eq_true c10
            clear c10
            by_cases c11 : a0_2 ≤ a1_2
            · rw [if_pos c11] at H
              have c11b0 : decide (a0_2 ≤ a1_2) = true := decide_eq_true c11
              clear c11
              by_cases c12 : a0_3 ≤ a1_3
              · rw [if_pos c12] at H
                have c12b0 : decide (a0_3 ≤ a1_3) = true := decide_eq_true c12
                clear c12
                obtain rfl := Option.some.inj H
                go_enter Try.func14, Try.ntmps14
                go_wp2_with (first | ((with_reducible refine gate_dst (N := 2) rfl ?_); refine box_event ?hg (N := 2) ?hd (cs := #[.int .i64 a0_0, .int .i64 a0_1, .int .i64 a0_2, .int .i64 a0_3, .int .i64 a0_4, .int .u64 a0_5, .int .u64 a0_6, .int .u64 a0_7]) (t := 24) ?hr ?_; (case hd => rfl); (case hg => rfl); (case hr => first | (go_simp; done) | (go_simp; rfl)); intro gb101 hg w13 hbox hb; have n0_ := Aside0.mk (below_step (by repeat (first | (with_reducible first | exact HB.out | apply below_alloc | apply pw_below_drewN | apply below_drew1) | exact HB.out)) hb); have n1_ := Aside0.mk (hbox); have n2_ := Aside0.mk ((by rw [hg]; exact (below_size (by repeat (first | (with_reducible first | exact HB.out | apply below_alloc | apply pw_below_drewN | apply below_drew1) | exact HB.out))) : w.heap.size ≤ gb101)); have n3_ := Aside0.mk ((by rw [hg]; exact (below_size (by repeat (first | (with_reducible first | exact HB.out | apply below_alloc | apply pw_below_drewN | apply below_drew1) | exact HB.out))) : w.heap.size ≤ gb101)); clear HB; have HB := n0_; have BK101 := n1_; have GW101 := n2_; have GE101 := n3_; clear n0_ n1_ n2_ n3_; clear hb hbox hg) | ((with_reducible refine gate_dst (N := 3) rfl ?_); refine box_event ?hg (N := 3) ?hd (cs := #[.int .i64 a1_0, .int .i64 a1_1, .int .i64 a1_2, .int .i64 a1_3, .int .i64 a1_4, .int .u64 a1_5, .int .u64 a1_6, .int .u64 a1_7]) (t := 24) ?hr ?_; (case hd => rfl); (case hg => rfl); (case hr => first | (go_simp; done) | (go_simp; rfl)); intro gb102 hg w14 hbox hb; have n0_ := Aside0.mk (blk_below (g := gb101) (o := .cells #[.int .i64 a0_0, .int .i64 a0_1, .int .i64 a0_2, .int .i64 a0_3, .int .i64 a0_4, .int .u64 a0_5, .int .u64 a0_6, .int .u64 a0_7] 24 (0, 0)) (by (with_reducible repeat (first | refine blk_drewN ?_ _ | refine blk_drew ?_ | refine blk_alloc ?_ _)); exact BK101.out) hb); have n1_ := Aside0.mk (below_step (by repeat (first | (with_reducible first | exact HB.out | apply below_alloc | apply pw_below_drewN | apply below_drew1 | refine below_set ?_ GE101.out) | exact HB.out)) hb); have n2_ := Aside0.mk (hbox); have n3_ := Aside0.mk ((by rw [hg]; exact (below_size (by repeat (first | (with_reducible first | exact HB.out | apply below_alloc | apply pw_below_drewN | apply below_drew1 | refine below_set ?_ GE101.out) | exact HB.out))) : w.heap.size ≤ gb102)); have n4_ := Aside0.mk ((by rw [hg]; exact (below_size (by repeat (first | (with_reducible first | exact HB.out | apply below_alloc | apply pw_below_drewN | apply below_drew1 | refine below_set ?_ GE101.out) | exact HB.out))) : w.heap.size ≤ gb102)); have n5_ := Aside0.mk ((by rw [hg]; exact Nat.ne_of_lt (blk_lt (g := gb101) (o := .cells #[.int .i64 a0_0, .int .i64 a0_1, .int .i64 a0_2, .int .i64 a0_3, .int .i64 a0_4, .int .u64 a0_5, .int .u64 a0_6, .int .u64 a0_7] 24 (0, 0)) (by (with_reducible repeat (first | refine blk_drewN ?_ _ | refine blk_drew ?_ | refine blk_alloc ?_ _)); exact BK101.out)) : gb101 ≠ gb102)); have n6_ := Aside0.mk ((by rw [hg]; exact Nat.ne_of_gt (blk_lt (g := gb101) (o := .cells #[.int .i64 a0_0, .int .i64 a0_1, .int .i64 a0_2, .int .i64 a0_3, .int .i64 a0_4, .int .u64 a0_5, .int .u64 a0_6, .int .u64 a0_7] 24 (0, 0)) (by (with_reducible repeat (first | refine blk_drewN ?_ _ | refine blk_drew ?_ | refine blk_alloc ?_ _)); exact BK101.out)) : gb102 ≠ gb101)); clear BK101; clear HB; have BK101 := n0_; have HB := n1_; have BK102 := n2_; have GW102 := n3_; have GE102 := n4_; have NB101_102 := n5_; have NB102_101 := n6_; clear n0_ n1_ n2_ n3_ n4_ n5_ n6_; clear hb hbox hg; have hnb15 := NB101_102.out; have hnc15 := NB102_101.out; have hcz16_0 : w14.cell? ⟨gb101, 0, none⟩ = some (.int .i64 a0_0) := (blk_cell BK101.out 0).trans rfl; have hcz16_1 : w14.cell? ⟨gb101, 1, none⟩ = some (.int .i64 a0_1) := (blk_cell BK101.out 1).trans rfl; have hcz16_2 : w14.cell? ⟨gb101, 2, none⟩ = some (.int .i64 a0_2) := (blk_cell BK101.out 2).trans rfl; have hcz16_3 : w14.cell? ⟨gb101, 3, none⟩ = some (.int .i64 a0_3) := (blk_cell BK101.out 3).trans rfl; have hcz16_4 : w14.cell? ⟨gb101, 4, none⟩ = some (.int .i64 a0_4) := (blk_cell BK101.out 4).trans rfl; have hcz16_5 : w14.cell? ⟨gb101, 5, none⟩ = some (.int .u64 a0_5) := (blk_cell BK101.out 5).trans rfl; have hcz16_6 : w14.cell? ⟨gb101, 6, none⟩ = some (.int .u64 a0_6) := (blk_cell BK101.out 6).trans rfl; have hcz16_7 : w14.cell? ⟨gb101, 7, none⟩ = some (.int .u64 a0_7) := (blk_cell BK101.out 7).trans rfl; have hfz16_0 := blk_frozen BK101.out 0; have hfz16_1 := blk_frozen BK101.out 1; have hfz16_2 := blk_frozen BK101.out 2; have hfz16_3 := blk_frozen BK101.out 3; have hfz16_4 := blk_frozen BK101.out 4; have hfz16_5 := blk_frozen BK101.out 5; have hfz16_6 := blk_frozen BK101.out 6; have hfz16_7 := blk_frozen BK101.out 7; have hcz17_0 : w14.cell? ⟨gb102, 0, none⟩ = some (.int .i64 a1_0) := (blk_cell BK102.out 0).trans rfl; have hcz17_1 : w14.cell? ⟨gb102, 1, none⟩ = some (.int .i64 a1_1) := (blk_cell BK102.out 1).trans rfl; have hcz17_2 : w14.cell? ⟨gb102, 2, none⟩ = some (.int .i64 a1_2) := (blk_cell BK102.out 2).trans rfl; have hcz17_3 : w14.cell? ⟨gb102, 3, none⟩ = some (.int .i64 a1_3) := (blk_cell BK102.out 3).trans rfl; have hcz17_4 : w14.cell? ⟨gb102, 4, none⟩ = some (.int .i64 a1_4) := (blk_cell BK102.out 4).trans rfl; have hcz17_5 : w14.cell? ⟨gb102, 5, none⟩ = some (.int .u64 a1_5) := (blk_cell BK102.out 5).trans rfl; have hcz17_6 : w14.cell? ⟨gb102, 6, none⟩ = some (.int .u64 a1_6) := (blk_cell BK102.out 6).trans rfl; have hcz17_7 : w14.cell? ⟨gb102, 7, none⟩ = some (.int .u64 a1_7) := (blk_cell BK102.out 7).trans rfl; have hfz17_0 := blk_frozen BK102.out 0; have hfz17_1 := blk_frozen BK102.out 1; have hfz17_2 := blk_frozen BK102.out 2; have hfz17_3 := blk_frozen BK102.out 3; have hfz17_4 := blk_frozen BK102.out 4; have hfz17_5 := blk_frozen BK102.out 5; have hfz17_6 := blk_frozen BK102.out 6; have hfz17_7 := blk_frozen BK102.out 7) | (go_at_call 28; (with_reducible refine (set_Within.calls a0_5 a1_5 true _ A4.out).mono ?_); rintro e w' ⟨rfl, ⟨nd, rfl⟩⟩) | (go_at_call 28; (with_reducible refine (set_Within.calls a0_7 a1_7 true _ A6.out).mono ?_); rintro e w' ⟨rfl, ⟨nd, rfl⟩⟩) | (go_at_call 28; (with_reducible refine (set_Within.calls a1_6 a0_6 true _ A8.out).mono ?_); rintro e w' ⟨rfl, ⟨nd, rfl⟩⟩))
                go_ret
                exact ⟨by first | rfl | (simp [errW_none, errW_some] <;> rfl) | (simp [*, errW_none, errW_some] <;> rfl), by repeat (first | (with_reducible first | exact HB.out | apply below_alloc | apply pw_below_drewN | apply below_drew1 | refine below_set ?_ GE101.out | refine below_set ?_ GE102.out) | exact HB.out)⟩
              · rw [if_neg c12] at H
                have c12b0 : decide (a0_3 ≤ a1_3) = false := decide_eq_false c12
                clear c12
                obtain rfl := Option.some.inj H
                go_enter Try.func14, Try.ntmps14
                go_wp2_with (first | ((with_reducible refine gate_dst (N := 2) rfl ?_); refine box_event ?hg (N := 2) ?hd (cs := #[.int .i64 a0_0, .int .i64 a0_1, .int .i64 a0_2, .int .i64 a0_3, .int .i64 a0_4, .int .u64 a0_5, .int .u64 a0_6, .int .u64 a0_7]) (t := 24) ?hr ?_; (case hd => rfl); (case hg => rfl); (case hr => first | (go_simp; done) | (go_simp; rfl)); intro gb101 hg w18 hbox hb; have n0_ := Aside0.mk (below_step (by repeat (first | (with_reducible first | exact HB.out | apply below_alloc | apply pw_below_drewN | apply below_drew1) | exact HB.out)) hb); have n1_ := Aside0.mk (hbox); have n2_ := Aside0.mk ((by rw [hg]; exact (below_size (by repeat (first | (with_reducible first | exact HB.out | apply below_alloc | apply pw_below_drewN | apply below_drew1) | exact HB.out))) : w.heap.size ≤ gb101)); have n3_ := Aside0.mk ((by rw [hg]; exact (below_size (by repeat (first | (with_reducible first | exact HB.out | apply below_alloc | apply pw_below_drewN | apply below_drew1) | exact HB.out))) : w.heap.size ≤ gb101)); clear HB; have HB := n0_; have BK101 := n1_; have GW101 := n2_; have GE101 := n3_; clear n0_ n1_ n2_ n3_; clear hb hbox hg) | ((with_reducible refine gate_dst (N := 3) rfl ?_); refine box_event ?hg (N := 3) ?hd (cs := #[.int .i64 a1_0, .int .i64 a1_1, .int .i64 a1_2, .int .i64 a1_3, .int .i64 a1_4, .int .u64 a1_5, .int .u64 a1_6, .int .u64 a1_7]) (t := 24) ?hr ?_; (case hd => rfl); (case hg => rfl); (case hr => first | (go_simp; done) | (go_simp; rfl)); intro gb102 hg w19 hbox hb; have n0_ := Aside0.mk (blk_below (g := gb101) (o := .cells #[.int .i64 a0_0, .int .i64 a0_1, .int .i64 a0_2, .int .i64 a0_3, .int .i64 a0_4, .int .u64 a0_5, .int .u64 a0_6, .int .u64 a0_7] 24 (0, 0)) (by (with_reducible repeat (first | refine blk_drewN ?_ _ | refine blk_drew ?_ | refine blk_alloc ?_ _)); exact BK101.out) hb); have n1_ := Aside0.mk (below_step (by repeat (first | (with_reducible first | exact HB.out | apply below_alloc | apply pw_below_drewN | apply below_drew1 | refine below_set ?_ GE101.out) | exact HB.out)) hb); have n2_ := Aside0.mk (hbox); have n3_ := Aside0.mk ((by rw [hg]; exact (below_size (by repeat (first | (with_reducible first | exact HB.out | apply below_alloc | apply pw_below_drewN | apply below_drew1 | refine below_set ?_ GE101.out) | exact HB.out))) : w.heap.size ≤ gb102)); have n4_ := Aside0.mk ((by rw [hg]; exact (below_size (by repeat (first | (with_reducible first | exact HB.out | apply below_alloc | apply pw_below_drewN | apply below_drew1 | refine below_set ?_ GE101.out) | exact HB.out))) : w.heap.size ≤ gb102)); have n5_ := Aside0.mk ((by rw [hg]; exact Nat.ne_of_lt (blk_lt (g := gb101) (o := .cells #[.int .i64 a0_0, .int .i64 a0_1, .int .i64 a0_2, .int .i64 a0_3, .int .i64 a0_4, .int .u64 a0_5, .int .u64 a0_6, .int .u64 a0_7] 24 (0, 0)) (by (with_reducible repeat (first | refine blk_drewN ?_ _ | refine blk_drew ?_ | refine blk_alloc ?_ _)); exact BK101.out)) : gb101 ≠ gb102)); have n6_ := Aside0.mk ((by rw [hg]; exact Nat.ne_of_gt (blk_lt (g := gb101) (o := .cells #[.int .i64 a0_0, .int .i64 a0_1, .int .i64 a0_2, .int .i64 a0_3, .int .i64 a0_4, .int .u64 a0_5, .int .u64 a0_6, .int .u64 a0_7] 24 (0, 0)) (by (with_reducible repeat (first | refine blk_drewN ?_ _ | refine blk_drew ?_ | refine blk_alloc ?_ _)); exact BK101.out)) : gb102 ≠ gb101)); clear BK101; clear HB; have BK101 := n0_; have HB := n1_; have BK102 := n2_; have GW102 := n3_; have GE102 := n4_; have NB101_102 := n5_; have NB102_101 := n6_; clear n0_ n1_ n2_ n3_ n4_ n5_ n6_; clear hb hbox hg; have hnb20 := NB101_102.out; have hnc20 := NB102_101.out; have hcz21_0 : w19.cell? ⟨gb101, 0, none⟩ = some (.int .i64 a0_0) := (blk_cell BK101.out 0).trans rfl; have hcz21_1 : w19.cell? ⟨gb101, 1, none⟩ = some (.int .i64 a0_1) := (blk_cell BK101.out 1).trans rfl; have hcz21_2 : w19.cell? ⟨gb101, 2, none⟩ = some (.int .i64 a0_2) := (blk_cell BK101.out 2).trans rfl; have hcz21_3 : w19.cell? ⟨gb101, 3, none⟩ = some (.int .i64 a0_3) := (blk_cell BK101.out 3).trans rfl; have hcz21_4 : w19.cell? ⟨gb101, 4, none⟩ = some (.int .i64 a0_4) := (blk_cell BK101.out 4).trans rfl; have hcz21_5 : w19.cell? ⟨gb101, 5, none⟩ = some (.int .u64 a0_5) := (blk_cell BK101.out 5).trans rfl; have hcz21_6 : w19.cell? ⟨gb101, 6, none⟩ = some (.int .u64 a0_6) := (blk_cell BK101.out 6).trans rfl; have hcz21_7 : w19.cell? ⟨gb101, 7, none⟩ = some (.int .u64 a0_7) := (blk_cell BK101.out 7).trans rfl; have hfz21_0 := blk_frozen BK101.out 0; have hfz21_1 := blk_frozen BK101.out 1; have hfz21_2 := blk_frozen BK101.out 2; have hfz21_3 := blk_frozen BK101.out 3; have hfz21_4 := blk_frozen BK101.out 4; have hfz21_5 := blk_frozen BK101.out 5; have hfz21_6 := blk_frozen BK101.out 6; have hfz21_7 := blk_frozen BK101.out 7; have hcz22_0 : w19.cell? ⟨gb102, 0, none⟩ = some (.int .i64 a1_0) := (blk_cell BK102.out 0).trans rfl; have hcz22_1 : w19.cell? ⟨gb102, 1, none⟩ = some (.int .i64 a1_1) := (blk_cell BK102.out 1).trans rfl; have hcz22_2 : w19.cell? ⟨gb102, 2, none⟩ = some (.int .i64 a1_2) := (blk_cell BK102.out 2).trans rfl; have hcz22_3 : w19.cell? ⟨gb102, 3, none⟩ = some (.int .i64 a1_3) := (blk_cell BK102.out 3).trans rfl; have hcz22_4 : w19.cell? ⟨gb102, 4, none⟩ = some (.int .i64 a1_4) := (blk_cell BK102.out 4).trans rfl; have hcz22_5 : w19.cell? ⟨gb102, 5, none⟩ = some (.int .u64 a1_5) := (blk_cell BK102.out 5).trans rfl; have hcz22_6 : w19.cell? ⟨gb102, 6, none⟩ = some (.int .u64 a1_6) := (blk_cell BK102.out 6).trans rfl; have hcz22_7 : w19.cell? ⟨gb102, 7, none⟩ = some (.int .u64 a1_7) := (blk_cell BK102.out 7).trans rfl; have hfz22_0 := blk_frozen BK102.out 0; have hfz22_1 := blk_frozen BK102.out 1; have hfz22_2 := blk_frozen BK102.out 2; have hfz22_3 := blk_frozen BK102.out 3; have hfz22_4 := blk_frozen BK102.out 4; have hfz22_5 := blk_frozen BK102.out 5; have hfz22_6 := blk_frozen BK102.out 6; have hfz22_7 := blk_frozen BK102.out 7) | (go_at_call 28; (with_reducible refine (set_Within.calls a0_5 a1_5 true _ A4.out).mono ?_); rintro e w' ⟨rfl, ⟨nd, rfl⟩⟩) | (go_at_call 28; (with_reducible refine (set_Within.calls a0_7 a1_7 true _ A6.out).mono ?_); rintro e w' ⟨rfl, ⟨nd, rfl⟩⟩) | (go_at_call 28; (with_reducible refine (set_Within.calls a1_6 a0_6 true _ A8.out).mono ?_); rintro e w' ⟨rfl, ⟨nd, rfl⟩⟩))
                go_ret
                exact ⟨by first | rfl | (simp [errW_none, errW_some] <;> rfl) | (simp [*, errW_none, errW_some] <;> rfl), by repeat (first | (with_reducible first | exact HB.out | apply below_alloc | apply pw_below_drewN | apply below_drew1 | refine below_set ?_ GE101.out | refine below_set ?_ GE102.out) | exact HB.out)⟩
            · rw [if_neg c11] at H
              have c11b0 : decide (a0_2 ≤ a1_2) = false := decide_eq_false c11
              clear c11
              obtain rfl := Option.some.inj H
              go_enter Try.func14, Try.ntmps14
              go_wp2_with (first | ((with_reducible refine gate_dst (N := 2) rfl ?_); refine box_event ?hg (N := 2) ?hd (cs := #[.int .i64 a0_0, .int .i64 a0_1, .int .i64 a0_2, .int .i64 a0_3, .int .i64 a0_4, .int .u64 a0_5, .int .u64 a0_6, .int .u64 a0_7]) (t := 24) ?hr ?_; (case hd => rfl); (case hg => rfl); (case hr => first | (go_simp; done) | (go_simp; rfl)); intro gb101 hg w23 hbox hb; have n0_ := Aside0.mk (below_step (by repeat (first | (with_reducible first | exact HB.out | apply below_alloc | apply pw_below_drewN | apply below_drew1) | exact HB.out)) hb); have n1_ := Aside0.mk (hbox); have n2_ := Aside0.mk ((by rw [hg]; exact (below_size (by repeat (first | (with_reducible first | exact HB.out | apply below_alloc | apply pw_below_drewN | apply below_drew1) | exact HB.out))) : w.heap.size ≤ gb101)); have n3_ := Aside0.mk ((by rw [hg]; exact (below_size (by repeat (first | (with_reducible first | exact HB.out | apply below_alloc | apply pw_below_drewN | apply below_drew1) | exact HB.out))) : w.heap.size ≤ gb101)); clear HB; have HB := n0_; have BK101 := n1_; have GW101 := n2_; have GE101 := n3_; clear n0_ n1_ n2_ n3_; clear hb hbox hg) | ((with_reducible refine gate_dst (N := 3) rfl ?_); refine box_event ?hg (N := 3) ?hd (cs := #[.int .i64 a1_0, .int .i64 a1_1, .int .i64 a1_2, .int .i64 a1_3, .int .i64 a1_4, .int .u64 a1_5, .int .u64 a1_6, .int .u64 a1_7]) (t := 24) ?hr ?_; (case hd => rfl); (case hg => rfl); (case hr => first | (go_simp; done) | (go_simp; rfl)); intro gb102 hg w24 hbox hb; have n0_ := Aside0.mk (blk_below (g := gb101) (o := .cells #[.int .i64 a0_0, .int .i64 a0_1, .int .i64 a0_2, .int .i64 a0_3, .int .i64 a0_4, .int .u64 a0_5, .int .u64 a0_6, .int .u64 a0_7] 24 (0, 0)) (by (with_reducible repeat (first | refine blk_drewN ?_ _ | refine blk_drew ?_ | refine blk_alloc ?_ _)); exact BK101.out) hb); have n1_ := Aside0.mk (below_step (by repeat (first | (with_reducible first | exact HB.out | apply below_alloc | apply pw_below_drewN | apply below_drew1 | refine below_set ?_ GE101.out) | exact HB.out)) hb); have n2_ := Aside0.mk (hbox); have n3_ := Aside0.mk ((by rw [hg]; exact (below_size (by repeat (first | (with_reducible first | exact HB.out | apply below_alloc | apply pw_below_drewN | apply below_drew1 | refine below_set ?_ GE101.out) | exact HB.out))) : w.heap.size ≤ gb102)); have n4_ := Aside0.mk ((by rw [hg]; exact (below_size (by repeat (first | (with_reducible first | exact HB.out | apply below_alloc | apply pw_below_drewN | apply below_drew1 | refine below_set ?_ GE101.out) | exact HB.out))) : w.heap.size ≤ gb102)); have n5_ := Aside0.mk ((by rw [hg]; exact Nat.ne_of_lt (blk_lt (g := gb101) (o := .cells #[.int .i64 a0_0, .int .i64 a0_1, .int .i64 a0_2, .int .i64 a0_3, .int .i64 a0_4, .int .u64 a0_5, .int .u64 a0_6, .int .u64 a0_7] 24 (0, 0)) (by (with_reducible repeat (first | refine blk_drewN ?_ _ | refine blk_drew ?_ | refine blk_alloc ?_ _)); exact BK101.out)) : gb101 ≠ gb102)); have n6_ := Aside0.mk ((by rw [hg]; exact Nat.ne_of_gt (blk_lt (g := gb101) (o := .cells #[.int .i64 a0_0, .int .i64 a0_1, .int .i64 a0_2, .int .i64 a0_3, .int .i64 a0_4, .int .u64 a0_5, .int .u64 a0_6, .int .u64 a0_7] 24 (0, 0)) (by (with_reducible repeat (first | refine blk_drewN ?_ _ | refine blk_drew ?_ | refine blk_alloc ?_ _)); exact BK101.out)) : gb102 ≠ gb101)); clear BK101; clear HB; have BK101 := n0_; have HB := n1_; have BK102 := n2_; have GW102 := n3_; have GE102 := n4_; have NB101_102 := n5_; have NB102_101 := n6_; clear n0_ n1_ n2_ n3_ n4_ n5_ n6_; clear hb hbox hg; have hnb25 := NB101_102.out; have hnc25 := NB102_101.out; have hcz26_0 : w24.cell? ⟨gb101, 0, none⟩ = some (.int .i64 a0_0) := (blk_cell BK101.out 0).trans rfl; have hcz26_1 : w24.cell? ⟨gb101, 1, none⟩ = some (.int .i64 a0_1) := (blk_cell BK101.out 1).trans rfl; have hcz26_2 : w24.cell? ⟨gb101, 2, none⟩ = some (.int .i64 a0_2) := (blk_cell BK101.out 2).trans rfl; have hcz26_3 : w24.cell? ⟨gb101, 3, none⟩ = some (.int .i64 a0_3) := (blk_cell BK101.out 3).trans rfl; have hcz26_4 : w24.cell? ⟨gb101, 4, none⟩ = some (.int .i64 a0_4) := (blk_cell BK101.out 4).trans rfl; have hcz26_5 : w24.cell? ⟨gb101, 5, none⟩ = some (.int .u64 a0_5) := (blk_cell BK101.out 5).trans rfl; have hcz26_6 : w24.cell? ⟨gb101, 6, none⟩ = some (.int .u64 a0_6) := (blk_cell BK101.out 6).trans rfl; have hcz26_7 : w24.cell? ⟨gb101, 7, none⟩ = some (.int .u64 a0_7) := (blk_cell BK101.out 7).trans rfl; have hfz26_0 := blk_frozen BK101.out 0; have hfz26_1 := blk_frozen BK101.out 1; have hfz26_2 := blk_frozen BK101.out 2; have hfz26_3 := blk_frozen BK101.out 3; have hfz26_4 := blk_frozen BK101.out 4; have hfz26_5 := blk_frozen BK101.out 5; have hfz26_6 := blk_frozen BK101.out 6; have hfz26_7 := blk_frozen BK101.out 7; have hcz27_0 : w24.cell? ⟨gb102, 0, none⟩ = some (.int .i64 a1_0) := (blk_cell BK102.out 0).trans rfl; have hcz27_1 : w24.cell? ⟨gb102, 1, none⟩ = some (.int .i64 a1_1) := (blk_cell BK102.out 1).trans rfl; have hcz27_2 : w24.cell? ⟨gb102, 2, none⟩ = some (.int .i64 a1_2) := (blk_cell BK102.out 2).trans rfl; have hcz27_3 : w24.cell? ⟨gb102, 3, none⟩ = some (.int .i64 a1_3) := (blk_cell BK102.out 3).trans rfl; have hcz27_4 : w24.cell? ⟨gb102, 4, none⟩ = some (.int .i64 a1_4) := (blk_cell BK102.out 4).trans rfl; have hcz27_5 : w24.cell? ⟨gb102, 5, none⟩ = some (.int .u64 a1_5) := (blk_cell BK102.out 5).trans rfl; have hcz27_6 : w24.cell? ⟨gb102, 6, none⟩ = some (.int .u64 a1_6) := (blk_cell BK102.out 6).trans rfl; have hcz27_7 : w24.cell? ⟨gb102, 7, none⟩ = some (.int .u64 a1_7) := (blk_cell BK102.out 7).trans rfl; have hfz27_0 := blk_frozen BK102.out 0; have hfz27_1 := blk_frozen BK102.out 1; have hfz27_2 := blk_frozen BK102.out 2; have hfz27_3 := blk_frozen BK102.out 3; have hfz27_4 := blk_frozen BK102.out 4; have hfz27_5 := blk_frozen BK102.out 5; have hfz27_6 := blk_frozen BK102.out 6; have hfz27_7 := blk_frozen BK102.out 7) | (go_at_call 28; (with_reducible refine (set_Within.calls a0_5 a1_5 true _ A4.out).mono ?_); rintro e w' ⟨rfl, ⟨nd, rfl⟩⟩) | (go_at_call 28; (with_reducible refine (set_Within.calls a0_7 a1_7 true _ A6.out).mono ?_); rintro e w' ⟨rfl, ⟨nd, rfl⟩⟩) | (go_at_call 28; (with_reducible refine (set_Within.calls a1_6 a0_6 true _ A8.out).mono ?_); rintro e w' ⟨rfl, ⟨nd, rfl⟩⟩))
              go_ret
              exact ⟨by first | rfl | (simp [errW_none, errW_some] <;> rfl) | (simp [*, errW_none, errW_some] <;> rfl), by repeat (first | (with_reducible first | exact HB.out | apply below_alloc | apply pw_below_drewN | apply below_drew1 | refine below_set ?_ GE101.out | refine below_set ?_ GE102.out) | exact HB.out)⟩
          · rw [if_neg c10] at H
            have c10b0 : decide (a0_1 ≤ a1_1) = false := decide_eq_false c10
            clear c10
            obtain rfl := Option.some.inj H
            go_enter Try.func14, Try.ntmps14
            go_wp2_with (first | ((with_reducible refine gate_dst (N := 2) rfl ?_); refine box_event ?hg (N := 2) ?hd (cs := #[.int .i64 a0_0, .int .i64 a0_1, .int .i64 a0_2, .int .i64 a0_3, .int .i64 a0_4, .int .u64 a0_5, .int .u64 a0_6, .int .u64 a0_7]) (t := 24) ?hr ?_; (case hd => rfl); (case hg => rfl); (case hr => first | (go_simp; done) | (go_simp; rfl)); intro gb101 hg w28 hbox hb; have n0_ := Aside0.mk (below_step (by repeat (first | (with_reducible first | exact HB.out | apply below_alloc | apply pw_below_drewN | apply below_drew1) | exact HB.out)) hb); have n1_ := Aside0.mk (hbox); have n2_ := Aside0.mk ((by rw [hg]; exact (below_size (by repeat (first | (with_reducible first | exact HB.out | apply below_alloc | apply pw_below_drewN | apply below_drew1) | exact HB.out))) : w.heap.size ≤ gb101)); have n3_ := Aside0.mk ((by rw [hg]; exact (below_size (by repeat (first | (with_reducible first | exact HB.out | apply below_alloc | apply pw_below_drewN | apply below_drew1) | exact HB.out))) : w.heap.size ≤ gb101)); clear HB; have HB := n0_; have BK101 := n1_; have GW101 := n2_; have GE101 := n3_; clear n0_ n1_ n2_ n3_; clear hb hbox hg) | ((with_reducible refine gate_dst (N := 3) rfl ?_); refine box_event ?hg (N := 3) ?hd (cs := #[.int .i64 a1_0, .int .i64 a1_1, .int .i64 a1_2, .int .i64 a1_3, .int .i64 a1_4, .int .u64 a1_5, .int .u64 a1_6, .int .u64 a1_7]) (t := 24) ?hr ?_; (case hd => rfl); (case hg => rfl); (case hr => first | (go_simp; done) | (go_simp; rfl)); intro gb102 hg w29 hbox hb; have n0_ := Aside0.mk (blk_below (g := gb101) (o := .cells #[.int .i64 a0_0, .int .i64 a0_1, .int .i64 a0_2, .int .i64 a0_3, .int .i64 a0_4, .int .u64 a0_5, .int .u64 a0_6, .int .u64 a0_7] 24 (0, 0)) (by (with_reducible repeat (first | refine blk_drewN ?_ _ | refine blk_drew ?_ | refine blk_alloc ?_ _)); exact BK101.out) hb); have n1_ := Aside0.mk (below_step (by repeat (first | (with_reducible first | exact HB.out | apply below_alloc | apply pw_below_drewN | apply below_drew1 | refine below_set ?_ GE101.out) | exact HB.out)) hb); have n2_ := Aside0.mk (hbox); have n3_ := Aside0.mk ((by rw [hg]; exact (below_size (by repeat (first | (with_reducible first | exact HB.out | apply below_alloc | apply pw_below_drewN | apply below_drew1 | refine below_set ?_ GE101.out) | exact HB.out))) : w.heap.size ≤ gb102)); have n4_ := Aside0.mk ((by rw [hg]; exact (below_size (by repeat (first | (with_reducible first | exact HB.out | apply below_alloc | apply pw_below_drewN | apply below_drew1 | refine below_set ?_ GE101.out) | exact HB.out))) : w.heap.size ≤ gb102)); have n5_ := Aside0.mk ((by rw [hg]; exact Nat.ne_of_lt (blk_lt (g := gb101) (o := .cells #[.int .i64 a0_0, .int .i64 a0_1, .int .i64 a0_2, .int .i64 a0_3, .int .i64 a0_4, .int .u64 a0_5, .int .u64 a0_6, .int .u64 a0_7] 24 (0, 0)) (by (with_reducible repeat (first | refine blk_drewN ?_ _ | refine blk_drew ?_ | refine blk_alloc ?_ _)); exact BK101.out)) : gb101 ≠ gb102)); have n6_ := Aside0.mk ((by rw [hg]; exact Nat.ne_of_gt (blk_lt (g := gb101) (o := .cells #[.int .i64 a0_0, .int .i64 a0_1, .int .i64 a0_2, .int .i64 a0_3, .int .i64 a0_4, .int .u64 a0_5, .int .u64 a0_6, .int .u64 a0_7] 24 (0, 0)) (by (with_reducible repeat (first | refine blk_drewN ?_ _ | refine blk_drew ?_ | refine blk_alloc ?_ _)); exact BK101.out)) : gb102 ≠ gb101)); clear BK101; clear HB; have BK101 := n0_; have HB := n1_; have BK102 := n2_; have GW102 := n3_; have GE102 := n4_; have NB101_102 := n5_; have NB102_101 := n6_; clear n0_ n1_ n2_ n3_ n4_ n5_ n6_; clear hb hbox hg; have hnb30 := NB101_102.out; have hnc30 := NB102_101.out; have hcz31_0 : w29.cell? ⟨gb101, 0, none⟩ = some (.int .i64 a0_0) := (blk_cell BK101.out 0).trans rfl; have hcz31_1 : w29.cell? ⟨gb101, 1, none⟩ = some (.int .i64 a0_1) := (blk_cell BK101.out 1).trans rfl; have hcz31_2 : w29.cell? ⟨gb101, 2, none⟩ = some (.int .i64 a0_2) := (blk_cell BK101.out 2).trans rfl; have hcz31_3 : w29.cell? ⟨gb101, 3, none⟩ = some (.int .i64 a0_3) := (blk_cell BK101.out 3).trans rfl; have hcz31_4 : w29.cell? ⟨gb101, 4, none⟩ = some (.int .i64 a0_4) := (blk_cell BK101.out 4).trans rfl; have hcz31_5 : w29.cell? ⟨gb101, 5, none⟩ = some (.int .u64 a0_5) := (blk_cell BK101.out 5).trans rfl; have hcz31_6 : w29.cell? ⟨gb101, 6, none⟩ = some (.int .u64 a0_6) := (blk_cell BK101.out 6).trans rfl; have hcz31_7 : w29.cell? ⟨gb101, 7, none⟩ = some (.int .u64 a0_7) := (blk_cell BK101.out 7).trans rfl; have hfz31_0 := blk_frozen BK101.out 0; have hfz31_1 := blk_frozen BK101.out 1; have hfz31_2 := blk_frozen BK101.out 2; have hfz31_3 := blk_frozen BK101.out 3; have hfz31_4 := blk_frozen BK101.out 4; have hfz31_5 := blk_frozen BK101.out 5; have hfz31_6 := blk_frozen BK101.out 6; have hfz31_7 := blk_frozen BK101.out 7; have hcz32_0 : w29.cell? ⟨gb102, 0, none⟩ = some (.int .i64 a1_0) := (blk_cell BK102.out 0).trans rfl; have hcz32_1 : w29.cell? ⟨gb102, 1, none⟩ = some (.int .i64 a1_1) := (blk_cell BK102.out 1).trans rfl; have hcz32_2 : w29.cell? ⟨gb102, 2, none⟩ = some (.int .i64 a1_2) := (blk_cell BK102.out 2).trans rfl; have hcz32_3 : w29.cell? ⟨gb102, 3, none⟩ = some (.int .i64 a1_3) := (blk_cell BK102.out 3).trans rfl; have hcz32_4 : w29.cell? ⟨gb102, 4, none⟩ = some (.int .i64 a1_4) := (blk_cell BK102.out 4).trans rfl; have hcz32_5 : w29.cell? ⟨gb102, 5, none⟩ = some (.int .u64 a1_5) := (blk_cell BK102.out 5).trans rfl; have hcz32_6 : w29.cell? ⟨gb102, 6, none⟩ = some (.int .u64 a1_6) := (blk_cell BK102.out 6).trans rfl; have hcz32_7 : w29.cell? ⟨gb102, 7, none⟩ = some (.int .u64 a1_7) := (blk_cell BK102.out 7).trans rfl; have hfz32_0 := blk_frozen BK102.out 0; have hfz32_1 := blk_frozen BK102.out 1; have hfz32_2 := blk_frozen BK102.out 2; have hfz32_3 := blk_frozen BK102.out 3; have hfz32_4 := blk_frozen BK102.out 4; have hfz32_5 := blk_frozen BK102.out 5; have hfz32_6 := blk_frozen BK102.out 6; have hfz32_7 := blk_frozen BK102.out 7) | (go_at_call 28; (with_reducible refine (set_Within.calls a0_5 a1_5 true _ A4.out).mono ?_); rintro e w' ⟨rfl, ⟨nd, rfl⟩⟩) | (go_at_call 28; (with_reducible refine (set_Within.calls a0_7 a1_7 true _ A6.out).mono ?_); rintro e w' ⟨rfl, ⟨nd, rfl⟩⟩) | (go_at_call 28; (with_reducible refine (set_Within.calls a1_6 a0_6 true _ A8.out).mono ?_); rintro e w' ⟨rfl, ⟨nd, rfl⟩⟩))
            go_ret
            exact ⟨by first | rfl | (simp [errW_none, errW_some] <;> rfl) | (simp [*, errW_none, errW_some] <;> rfl), by repeat (first | (with_reducible first | exact HB.out | apply below_alloc | apply pw_below_drewN | apply below_drew1 | refine below_set ?_ GE101.out | refine below_set ?_ GE102.out) | exact HB.out)⟩
        · replace c9 := Bool.eq_false_iff.mpr c9
          subst c9
          have H1 : (some false) = some r := by rw [if_neg (show ¬ (false = true) by decide)] at H; exact H
          clear H
          have H := H1
          clear H1
          obtain rfl := Option.some.inj H
          go_enter Try.func14, Try.ntmps14
          go_wp2_with (first | ((with_reducible refine gate_dst (N := 2) rfl ?_); refine box_event ?hg (N := 2) ?hd (cs := #[.int .i64 a0_0, .int .i64 a0_1, .int .i64 a0_2, .int .i64 a0_3, .int .i64 a0_4, .int .u64 a0_5, .int .u64 a0_6, .int .u64 a0_7]) (t := 24) ?hr ?_; (case hd => rfl); (case hg => rfl); (case hr => first | (go_simp; done) | (go_simp; rfl)); intro gb101 hg w33 hbox hb; have n0_ := Aside0.mk (below_step (by repeat (first | (with_reducible first | exact HB.out | apply below_alloc | apply pw_below_drewN | apply below_drew1) | exact HB.out)) hb); have n1_ := Aside0.mk (hbox); have n2_ := Aside0.mk ((by rw [hg]; exact (below_size (by repeat (first | (with_reducible first | exact HB.out | apply below_alloc | apply pw_below_drewN | apply below_drew1) | exact HB.out))) : w.heap.size ≤ gb101)); have n3_ := Aside0.mk ((by rw [hg]; exact (below_size (by repeat (first | (with_reducible first | exact HB.out | apply below_alloc | apply pw_below_drewN | apply below_drew1) | exact HB.out))) : w.heap.size ≤ gb101)); clear HB; have HB := n0_; have BK101 := n1_; have GW101 := n2_; have GE101 := n3_; clear n0_ n1_ n2_ n3_; clear hb hbox hg) | ((with_reducible refine gate_dst (N := 3) rfl ?_); refine box_event ?hg (N := 3) ?hd (cs := #[.int .i64 a1_0, .int .i64 a1_1, .int .i64 a1_2, .int .i64 a1_3, .int .i64 a1_4, .int .u64 a1_5, .int .u64 a1_6, .int .u64 a1_7]) (t := 24) ?hr ?_; (case hd => rfl); (case hg => rfl); (case hr => first | (go_simp; done) | (go_simp; rfl)); intro gb102 hg w34 hbox hb; have n0_ := Aside0.mk (blk_below (g := gb101) (o := .cells #[.int .i64 a0_0, .int .i64 a0_1, .int .i64 a0_2, .int .i64 a0_3, .int .i64 a0_4, .int .u64 a0_5, .int .u64 a0_6, .int .u64 a0_7] 24 (0, 0)) (by (with_reducible repeat (first | refine blk_drewN ?_ _ | refine blk_drew ?_ | refine blk_alloc ?_ _)); exact BK101.out) hb); have n1_ := Aside0.mk (below_step (by repeat (first | (with_reducible first | exact HB.out | apply below_alloc | apply pw_below_drewN | apply below_drew1 | refine below_set ?_ GE101.out) | exact HB.out)) hb); have n2_ := Aside0.mk (hbox); have n3_ := Aside0.mk ((by rw [hg]; exact (below_size (by repeat (first | (with_reducible first | exact HB.out | apply below_alloc | apply pw_below_drewN | apply below_drew1 | refine below_set ?_ GE101.out) | exact HB.out))) : w.heap.size ≤ gb102)); have n4_ := Aside0.mk ((by rw [hg]; exact (below_size (by repeat (first | (with_reducible first | exact HB.out | apply below_alloc | apply pw_below_drewN | apply below_drew1 | refine below_set ?_ GE101.out) | exact HB.out))) : w.heap.size ≤ gb102)); have n5_ := Aside0.mk ((by rw [hg]; exact Nat.ne_of_lt (blk_lt (g := gb101) (o := .cells #[.int .i64 a0_0, .int .i64 a0_1, .int .i64 a0_2, .int .i64 a0_3, .int .i64 a0_4, .int .u64 a0_5, .int .u64 a0_6, .int .u64 a0_7] 24 (0, 0)) (by (with_reducible repeat (first | refine blk_drewN ?_ _ | refine blk_drew ?_ | refine blk_alloc ?_ _)); exact BK101.out)) : gb101 ≠ gb102)); have n6_ := Aside0.mk ((by rw [hg]; exact Nat.ne_of_gt (blk_lt (g := gb101) (o := .cells #[.int .i64 a0_0, .int .i64 a0_1, .int .i64 a0_2, .int .i64 a0_3, .int .i64 a0_4, .int .u64 a0_5, .int .u64 a0_6, .int .u64 a0_7] 24 (0, 0)) (by (with_reducible repeat (first | refine blk_drewN ?_ _ | refine blk_drew ?_ | refine blk_alloc ?_ _)); exact BK101.out)) : gb102 ≠ gb101)); clear BK101; clear HB; have BK101 := n0_; have HB := n1_; have BK102 := n2_; have GW102 := n3_; have GE102 := n4_; have NB101_102 := n5_; have NB102_101 := n6_; clear n0_ n1_ n2_ n3_ n4_ n5_ n6_; clear hb hbox hg; have hnb35 := NB101_102.out; have hnc35 := NB102_101.out; have hcz36_0 : w34.cell? ⟨gb101, 0, none⟩ = some (.int .i64 a0_0) := (blk_cell BK101.out 0).trans rfl; have hcz36_1 : w34.cell? ⟨gb101, 1, none⟩ = some (.int .i64 a0_1) := (blk_cell BK101.out 1).trans rfl; have hcz36_2 : w34.cell? ⟨gb101, 2, none⟩ = some (.int .i64 a0_2) := (blk_cell BK101.out 2).trans rfl; have hcz36_3 : w34.cell? ⟨gb101, 3, none⟩ = some (.int .i64 a0_3) := (blk_cell BK101.out 3).trans rfl; have hcz36_4 : w34.cell? ⟨gb101, 4, none⟩ = some (.int .i64 a0_4) := (blk_cell BK101.out 4).trans rfl; have hcz36_5 : w34.cell? ⟨gb101, 5, none⟩ = some (.int .u64 a0_5) := (blk_cell BK101.out 5).trans rfl; have hcz36_6 : w34.cell? ⟨gb101, 6, none⟩ = some (.int .u64 a0_6) := (blk_cell BK101.out 6).trans rfl; have hcz36_7 : w34.cell? ⟨gb101, 7, none⟩ = some (.int .u64 a0_7) := (blk_cell BK101.out 7).trans rfl; have hfz36_0 := blk_frozen BK101.out 0; have hfz36_1 := blk_frozen BK101.out 1; have hfz36_2 := blk_frozen BK101.out 2; have hfz36_3 := blk_frozen BK101.out 3; have hfz36_4 := blk_frozen BK101.out 4; have hfz36_5 := blk_frozen BK101.out 5; have hfz36_6 := blk_frozen BK101.out 6; have hfz36_7 := blk_frozen BK101.out 7; have hcz37_0 : w34.cell? ⟨gb102, 0, none⟩ = some (.int .i64 a1_0) := (blk_cell BK102.out 0).trans rfl; have hcz37_1 : w34.cell? ⟨gb102, 1, none⟩ = some (.int .i64 a1_1) := (blk_cell BK102.out 1).trans rfl; have hcz37_2 : w34.cell? ⟨gb102, 2, none⟩ = some (.int .i64 a1_2) := (blk_cell BK102.out 2).trans rfl; have hcz37_3 : w34.cell? ⟨gb102, 3, none⟩ = some (.int .i64 a1_3) := (blk_cell BK102.out 3).trans rfl; have hcz37_4 : w34.cell? ⟨gb102, 4, none⟩ = some (.int .i64 a1_4) := (blk_cell BK102.out 4).trans rfl; have hcz37_5 : w34.cell? ⟨gb102, 5, none⟩ = some (.int .u64 a1_5) := (blk_cell BK102.out 5).trans rfl; have hcz37_6 : w34.cell? ⟨gb102, 6, none⟩ = some (.int .u64 a1_6) := (blk_cell BK102.out 6).trans rfl; have hcz37_7 : w34.cell? ⟨gb102, 7, none⟩ = some (.int .u64 a1_7) := (blk_cell BK102.out 7).trans rfl; have hfz37_0 := blk_frozen BK102.out 0; have hfz37_1 := blk_frozen BK102.out 1; have hfz37_2 := blk_frozen BK102.out 2; have hfz37_3 := blk_frozen BK102.out 3; have hfz37_4 := blk_frozen BK102.out 4; have hfz37_5 := blk_frozen BK102.out 5; have hfz37_6 := blk_frozen BK102.out 6; have hfz37_7 := blk_frozen BK102.out 7) | (go_at_call 28; (with_reducible refine (set_Within.calls a0_5 a1_5 true _ A4.out).mono ?_); rintro e w' ⟨rfl, ⟨nd, rfl⟩⟩) | (go_at_call 28; (with_reducible refine (set_Within.calls a0_7 a1_7 true _ A6.out).mono ?_); rintro e w' ⟨rfl, ⟨nd, rfl⟩⟩) | (go_at_call 28; (with_reducible refine (set_Within.calls a1_6 a0_6 false _ A8.out).mono ?_); rintro e w' ⟨rfl, ⟨nd, rfl⟩⟩))
          go_ret
          exact ⟨by first | rfl | (simp [errW_none, errW_some] <;> rfl) | (simp [*, errW_none, errW_some] <;> rfl), by repeat (first | (with_reducible first | exact HB.out | apply below_alloc | apply pw_below_drewN | apply below_drew1 | refine below_set ?_ GE101.out | refine below_set ?_ GE102.out) | exact HB.out)⟩
      · replace c7 := Bool.eq_false_iff.mpr c7
        subst c7
        have H1 : (some false) = some r := by rw [if_neg (show ¬ (false = true) by decide)] at H; exact H
        clear H
        have H := H1
        clear H1
        obtain rfl := Option.some.inj H
        go_enter Try.func14, Try.ntmps14
        go_wp2_with (first | ((with_reducible refine gate_dst (N := 2) rfl ?_); refine box_event ?hg (N := 2) ?hd (cs := #[.int .i64 a0_0, .int .i64 a0_1, .int .i64 a0_2, .int .i64 a0_3, .int .i64 a0_4, .int .u64 a0_5, .int .u64 a0_6, .int .u64 a0_7]) (t := 24) ?hr ?_; (case hd => rfl); (case hg => rfl); (case hr => first | (go_simp; done) | (go_simp; rfl)); intro gb101 hg w38 hbox hb; have n0_ := Aside0.mk (below_step (by repeat (first | (with_reducible first | exact HB.out | apply below_alloc | apply pw_below_drewN | apply below_drew1) | exact HB.out)) hb); have n1_ := Aside0.mk (hbox); have n2_ := Aside0.mk ((by rw [hg]; exact (below_size (by repeat (first | (with_reducible first | exact HB.out | apply below_alloc | apply pw_below_drewN | apply below_drew1) | exact HB.out))) : w.heap.size ≤ gb101)); have n3_ := Aside0.mk ((by rw [hg]; exact (below_size (by repeat (first | (with_reducible first | exact HB.out | apply below_alloc | apply pw_below_drewN | apply below_drew1) | exact HB.out))) : w.heap.size ≤ gb101)); clear HB; have HB := n0_; have BK101 := n1_; have GW101 := n2_; have GE101 := n3_; clear n0_ n1_ n2_ n3_; clear hb hbox hg) | ((with_reducible refine gate_dst (N := 3) rfl ?_); refine box_event ?hg (N := 3) ?hd (cs := #[.int .i64 a1_0, .int .i64 a1_1, .int .i64 a1_2, .int .i64 a1_3, .int .i64 a1_4, .int .u64 a1_5, .int .u64 a1_6, .int .u64 a1_7]) (t := 24) ?hr ?_; (case hd => rfl); (case hg => rfl); (case hr => first | (go_simp; done) | (go_simp; rfl)); intro gb102 hg w39 hbox hb; have n0_ := Aside0.mk (blk_below (g := gb101) (o := .cells #[.int .i64 a0_0, .int .i64 a0_1, .int .i64 a0_2, .int .i64 a0_3, .int .i64 a0_4, .int .u64 a0_5, .int .u64 a0_6, .int .u64 a0_7] 24 (0, 0)) (by (with_reducible repeat (first | refine blk_drewN ?_ _ | refine blk_drew ?_ | refine blk_alloc ?_ _)); exact BK101.out) hb); have n1_ := Aside0.mk (below_step (by repeat (first | (with_reducible first | exact HB.out | apply below_alloc | apply pw_below_drewN | apply below_drew1 | refine below_set ?_ GE101.out) | exact HB.out)) hb); have n2_ := Aside0.mk (hbox); have n3_ := Aside0.mk ((by rw [hg]; exact (below_size (by repeat (first | (with_reducible first | exact HB.out | apply below_alloc | apply pw_below_drewN | apply below_drew1 | refine below_set ?_ GE101.out) | exact HB.out))) : w.heap.size ≤ gb102)); have n4_ := Aside0.mk ((by rw [hg]; exact (below_size (by repeat (first | (with_reducible first | exact HB.out | apply below_alloc | apply pw_below_drewN | apply below_drew1 | refine below_set ?_ GE101.out) | exact HB.out))) : w.heap.size ≤ gb102)); have n5_ := Aside0.mk ((by rw [hg]; exact Nat.ne_of_lt (blk_lt (g := gb101) (o := .cells #[.int .i64 a0_0, .int .i64 a0_1, .int .i64 a0_2, .int .i64 a0_3, .int .i64 a0_4, .int .u64 a0_5, .int .u64 a0_6, .int .u64 a0_7] 24 (0, 0)) (by (with_reducible repeat (first | refine blk_drewN ?_ _ | refine blk_drew ?_ | refine blk_alloc ?_ _)); exact BK101.out)) : gb101 ≠ gb102)); have n6_ := Aside0.mk ((by rw [hg]; exact Nat.ne_of_gt (blk_lt (g := gb101) (o := .cells #[.int .i64 a0_0, .int .i64 a0_1, .int .i64 a0_2, .int .i64 a0_3, .int .i64 a0_4, .int .u64 a0_5, .int .u64 a0_6, .int .u64 a0_7] 24 (0, 0)) (by (with_reducible repeat (first | refine blk_drewN ?_ _ | refine blk_drew ?_ | refine blk_alloc ?_ _)); exact BK101.out)) : gb102 ≠ gb101)); clear BK101; clear HB; have BK101 := n0_; have HB := n1_; have BK102 := n2_; have GW102 := n3_; have GE102 := n4_; have NB101_102 := n5_; have NB102_101 := n6_; clear n0_ n1_ n2_ n3_ n4_ n5_ n6_; clear hb hbox hg; have hnb40 := NB101_102.out; have hnc40 := NB102_101.out; have hcz41_0 : w39.cell? ⟨gb101, 0, none⟩ = some (.int .i64 a0_0) := (blk_cell BK101.out 0).trans rfl; have hcz41_1 : w39.cell? ⟨gb101, 1, none⟩ = some (.int .i64 a0_1) := (blk_cell BK101.out 1).trans rfl; have hcz41_2 : w39.cell? ⟨gb101, 2, none⟩ = some (.int .i64 a0_2) := (blk_cell BK101.out 2).trans rfl; have hcz41_3 : w39.cell? ⟨gb101, 3, none⟩ = some (.int .i64 a0_3) := (blk_cell BK101.out 3).trans rfl; have hcz41_4 : w39.cell? ⟨gb101, 4, none⟩ = some (.int .i64 a0_4) := (blk_cell BK101.out 4).trans rfl; have hcz41_5 : w39.cell? ⟨gb101, 5, none⟩ = some (.int .u64 a0_5) := (blk_cell BK101.out 5).trans rfl; have hcz41_6 : w39.cell? ⟨gb101, 6, none⟩ = some (.int .u64 a0_6) := (blk_cell BK101.out 6).trans rfl; have hcz41_7 : w39.cell? ⟨gb101, 7, none⟩ = some (.int .u64 a0_7) := (blk_cell BK101.out 7).trans rfl; have hfz41_0 := blk_frozen BK101.out 0; have hfz41_1 := blk_frozen BK101.out 1; have hfz41_2 := blk_frozen BK101.out 2; have hfz41_3 := blk_frozen BK101.out 3; have hfz41_4 := blk_frozen BK101.out 4; have hfz41_5 := blk_frozen BK101.out 5; have hfz41_6 := blk_frozen BK101.out 6; have hfz41_7 := blk_frozen BK101.out 7; have hcz42_0 : w39.cell? ⟨gb102, 0, none⟩ = some (.int .i64 a1_0) := (blk_cell BK102.out 0).trans rfl; have hcz42_1 : w39.cell? ⟨gb102, 1, none⟩ = some (.int .i64 a1_1) := (blk_cell BK102.out 1).trans rfl; have hcz42_2 : w39.cell? ⟨gb102, 2, none⟩ = some (.int .i64 a1_2) := (blk_cell BK102.out 2).trans rfl; have hcz42_3 : w39.cell? ⟨gb102, 3, none⟩ = some (.int .i64 a1_3) := (blk_cell BK102.out 3).trans rfl; have hcz42_4 : w39.cell? ⟨gb102, 4, none⟩ = some (.int .i64 a1_4) := (blk_cell BK102.out 4).trans rfl; have hcz42_5 : w39.cell? ⟨gb102, 5, none⟩ = some (.int .u64 a1_5) := (blk_cell BK102.out 5).trans rfl; have hcz42_6 : w39.cell? ⟨gb102, 6, none⟩ = some (.int .u64 a1_6) := (blk_cell BK102.out 6).trans rfl; have hcz42_7 : w39.cell? ⟨gb102, 7, none⟩ = some (.int .u64 a1_7) := (blk_cell BK102.out 7).trans rfl; have hfz42_0 := blk_frozen BK102.out 0; have hfz42_1 := blk_frozen BK102.out 1; have hfz42_2 := blk_frozen BK102.out 2; have hfz42_3 := blk_frozen BK102.out 3; have hfz42_4 := blk_frozen BK102.out 4; have hfz42_5 := blk_frozen BK102.out 5; have hfz42_6 := blk_frozen BK102.out 6; have hfz42_7 := blk_frozen BK102.out 7) | (go_at_call 28; (with_reducible refine (set_Within.calls a0_5 a1_5 true _ A4.out).mono ?_); rintro e w' ⟨rfl, ⟨nd, rfl⟩⟩) | (go_at_call 28; (with_reducible refine (set_Within.calls a0_7 a1_7 false _ A6.out).mono ?_); rintro e w' ⟨rfl, ⟨nd, rfl⟩⟩))
        go_ret
        exact ⟨by first | rfl | (simp [errW_none, errW_some] <;> rfl) | (simp [*, errW_none, errW_some] <;> rfl), by repeat (first | (with_reducible first | exact HB.out | apply below_alloc | apply pw_below_drewN | apply below_drew1 | refine below_set ?_ GE101.out | refine below_set ?_ GE102.out) | exact HB.out)⟩
    · replace c5 := Bool.eq_false_iff.mpr c5
      subst c5
      have H1 : (some false) = some r := by rw [if_neg (show ¬ (false = true) by decide)] at H; exact H
      clear H
      have H := H1
      clear H1
      obtain rfl := Option.some.inj H
      go_enter Try.func14, Try.ntmps14
      go_wp2_with (first | ((with_reducible refine gate_dst (N := 2) rfl ?_); refine box_event ?hg (N := 2) ?hd (cs := #[.int .i64 a0_0, .int .i64 a0_1, .int .i64 a0_2, .int .i64 a0_3, .int .i64 a0_4, .int .u64 a0_5, .int .u64 a0_6, .int .u64 a0_7]) (t := 24) ?hr ?_; (case hd => rfl); (case hg => rfl); (case hr => first | (go_simp; done) | (go_simp; rfl)); intro gb101 hg w43 hbox hb; have n0_ := Aside0.mk (below_step (by repeat (first | (with_reducible first | exact HB.out | apply below_alloc | apply pw_below_drewN | apply below_drew1) | exact HB.out)) hb); have n1_ := Aside0.mk (hbox); have n2_ := Aside0.mk ((by rw [hg]; exact (below_size (by repeat (first | (with_reducible first | exact HB.out | apply below_alloc | apply pw_below_drewN | apply below_drew1) | exact HB.out))) : w.heap.size ≤ gb101)); have n3_ := Aside0.mk ((by rw [hg]; exact (below_size (by repeat (first | (with_reducible first | exact HB.out | apply below_alloc | apply pw_below_drewN | apply below_drew1) | exact HB.out))) : w.heap.size ≤ gb101)); clear HB; have HB := n0_; have BK101 := n1_; have GW101 := n2_; have GE101 := n3_; clear n0_ n1_ n2_ n3_; clear hb hbox hg) | ((with_reducible refine gate_dst (N := 3) rfl ?_); refine box_event ?hg (N := 3) ?hd (cs := #[.int .i64 a1_0, .int .i64 a1_1, .int .i64 a1_2, .int .i64 a1_3, .int .i64 a1_4, .int .u64 a1_5, .int .u64 a1_6, .int .u64 a1_7]) (t := 24) ?hr ?_; (case hd => rfl); (case hg => rfl); (case hr => first | (go_simp; done) | (go_simp; rfl)); intro gb102 hg w44 hbox hb; have n0_ := Aside0.mk (blk_below (g := gb101) (o := .cells #[.int .i64 a0_0, .int .i64 a0_1, .int .i64 a0_2, .int .i64 a0_3, .int .i64 a0_4, .int .u64 a0_5, .int .u64 a0_6, .int .u64 a0_7] 24 (0, 0)) (by (with_reducible repeat (first | refine blk_drewN ?_ _ | refine blk_drew ?_ | refine blk_alloc ?_ _)); exact BK101.out) hb); have n1_ := Aside0.mk (below_step (by repeat (first | (with_reducible first | exact HB.out | apply below_alloc | apply pw_below_drewN | apply below_drew1 | refine below_set ?_ GE101.out) | exact HB.out)) hb); have n2_ := Aside0.mk (hbox); have n3_ := Aside0.mk ((by rw [hg]; exact (below_size (by repeat (first | (with_reducible first | exact HB.out | apply below_alloc | apply pw_below_drewN | apply below_drew1 | refine below_set ?_ GE101.out) | exact HB.out))) : w.heap.size ≤ gb102)); have n4_ := Aside0.mk ((by rw [hg]; exact (below_size (by repeat (first | (with_reducible first | exact HB.out | apply below_alloc | apply pw_below_drewN | apply below_drew1 | refine below_set ?_ GE101.out) | exact HB.out))) : w.heap.size ≤ gb102)); have n5_ := Aside0.mk ((by rw [hg]; exact Nat.ne_of_lt (blk_lt (g := gb101) (o := .cells #[.int .i64 a0_0, .int .i64 a0_1, .int .i64 a0_2, .int .i64 a0_3, .int .i64 a0_4, .int .u64 a0_5, .int .u64 a0_6, .int .u64 a0_7] 24 (0, 0)) (by (with_reducible repeat (first | refine blk_drewN ?_ _ | refine blk_drew ?_ | refine blk_alloc ?_ _)); exact BK101.out)) : gb101 ≠ gb102)); have n6_ := Aside0.mk ((by rw [hg]; exact Nat.ne_of_gt (blk_lt (g := gb101) (o := .cells #[.int .i64 a0_0, .int .i64 a0_1, .int .i64 a0_2, .int .i64 a0_3, .int .i64 a0_4, .int .u64 a0_5, .int .u64 a0_6, .int .u64 a0_7] 24 (0, 0)) (by (with_reducible repeat (first | refine blk_drewN ?_ _ | refine blk_drew ?_ | refine blk_alloc ?_ _)); exact BK101.out)) : gb102 ≠ gb101)); clear BK101; clear HB; have BK101 := n0_; have HB := n1_; have BK102 := n2_; have GW102 := n3_; have GE102 := n4_; have NB101_102 := n5_; have NB102_101 := n6_; clear n0_ n1_ n2_ n3_ n4_ n5_ n6_; clear hb hbox hg; have hnb45 := NB101_102.out; have hnc45 := NB102_101.out; have hcz46_0 : w44.cell? ⟨gb101, 0, none⟩ = some (.int .i64 a0_0) := (blk_cell BK101.out 0).trans rfl; have hcz46_1 : w44.cell? ⟨gb101, 1, none⟩ = some (.int .i64 a0_1) := (blk_cell BK101.out 1).trans rfl; have hcz46_2 : w44.cell? ⟨gb101, 2, none⟩ = some (.int .i64 a0_2) := (blk_cell BK101.out 2).trans rfl; have hcz46_3 : w44.cell? ⟨gb101, 3, none⟩ = some (.int .i64 a0_3) := (blk_cell BK101.out 3).trans rfl; have hcz46_4 : w44.cell? ⟨gb101, 4, none⟩ = some (.int .i64 a0_4) := (blk_cell BK101.out 4).trans rfl; have hcz46_5 : w44.cell? ⟨gb101, 5, none⟩ = some (.int .u64 a0_5) := (blk_cell BK101.out 5).trans rfl; have hcz46_6 : w44.cell? ⟨gb101, 6, none⟩ = some (.int .u64 a0_6) := (blk_cell BK101.out 6).trans rfl; have hcz46_7 : w44.cell? ⟨gb101, 7, none⟩ = some (.int .u64 a0_7) := (blk_cell BK101.out 7).trans rfl; have hfz46_0 := blk_frozen BK101.out 0; have hfz46_1 := blk_frozen BK101.out 1; have hfz46_2 := blk_frozen BK101.out 2; have hfz46_3 := blk_frozen BK101.out 3; have hfz46_4 := blk_frozen BK101.out 4; have hfz46_5 := blk_frozen BK101.out 5; have hfz46_6 := blk_frozen BK101.out 6; have hfz46_7 := blk_frozen BK101.out 7; have hcz47_0 : w44.cell? ⟨gb102, 0, none⟩ = some (.int .i64 a1_0) := (blk_cell BK102.out 0).trans rfl; have hcz47_1 : w44.cell? ⟨gb102, 1, none⟩ = some (.int .i64 a1_1) := (blk_cell BK102.out 1).trans rfl; have hcz47_2 : w44.cell? ⟨gb102, 2, none⟩ = some (.int .i64 a1_2) := (blk_cell BK102.out 2).trans rfl; have hcz47_3 : w44.cell? ⟨gb102, 3, none⟩ = some (.int .i64 a1_3) := (blk_cell BK102.out 3).trans rfl; have hcz47_4 : w44.cell? ⟨gb102, 4, none⟩ = some (.int .i64 a1_4) := (blk_cell BK102.out 4).trans rfl; have hcz47_5 : w44.cell? ⟨gb102, 5, none⟩ = some (.int .u64 a1_5) := (blk_cell BK102.out 5).trans rfl; have hcz47_6 : w44.cell? ⟨gb102, 6, none⟩ = some (.int .u64 a1_6) := (blk_cell BK102.out 6).trans rfl; have hcz47_7 : w44.cell? ⟨gb102, 7, none⟩ = some (.int .u64 a1_7) := (blk_cell BK102.out 7).trans rfl; have hfz47_0 := blk_frozen BK102.out 0; have hfz47_1 := blk_frozen BK102.out 1; have hfz47_2 := blk_frozen BK102.out 2; have hfz47_3 := blk_frozen BK102.out 3; have hfz47_4 := blk_frozen BK102.out 4; have hfz47_5 := blk_frozen BK102.out 5; have hfz47_6 := blk_frozen BK102.out 6; have hfz47_7 := blk_frozen BK102.out 7) | (go_at_call 28; (with_reducible refine (set_Within.calls a0_5 a1_5 false _ A4.out).mono ?_); rintro e w' ⟨rfl, ⟨nd, rfl⟩⟩))
      go_ret
      exact ⟨by first | rfl | (simp [errW_none, errW_some] <;> rfl) | (simp [*, errW_none, errW_some] <;> rfl), by repeat (first | (with_reducible first | exact HB.out | apply below_alloc | apply pw_below_drewN | apply below_drew1 | refine below_set ?_ GE101.out | refine below_set ?_ GE102.out) | exact HB.out)⟩
  · rw [if_neg c3] at H
    have c3b0 : (a0_0 == a1_0) = false := beq_eq_false_iff_ne.mpr c3
    have c3b1 : (a0_0 != a1_0) = true := bne_iff_ne.mpr c3
    obtain rfl := Option.some.inj H
    go_enter Try.func14, Try.ntmps14
    go_wp2_with (first | ((with_reducible refine gate_dst (N := 2) rfl ?_); refine box_event ?hg (N := 2) ?hd (cs := #[.int .i64 a0_0, .int .i64 a0_1, .int .i64 a0_2, .int .i64 a0_3, .int .i64 a0_4, .int .u64 a0_5, .int .u64 a0_6, .int .u64 a0_7]) (t := 24) ?hr ?_; (case hd => rfl); (case hg => rfl); (case hr => first | (go_simp; done) | (go_simp; rfl)); intro gb101 hg w48 hbox hb; have n0_ := Aside0.mk (below_step (by repeat (first | (with_reducible first | exact HB.out | apply below_alloc | apply pw_below_drewN | apply below_drew1) | exact HB.out)) hb); have n1_ := Aside0.mk (hbox); have n2_ := Aside0.mk ((by rw [hg]; exact (below_size (by repeat (first | (with_reducible first | exact HB.out | apply below_alloc | apply pw_below_drewN | apply below_drew1) | exact HB.out))) : w.heap.size ≤ gb101)); have n3_ := Aside0.mk ((by rw [hg]; exact (below_size (by repeat (first | (with_reducible first | exact HB.out | apply below_alloc | apply pw_below_drewN | apply below_drew1) | exact HB.out))) : w.heap.size ≤ gb101)); clear HB; have HB := n0_; have BK101 := n1_; have GW101 := n2_; have GE101 := n3_; clear n0_ n1_ n2_ n3_; clear hb hbox hg) | ((with_reducible refine gate_dst (N := 3) rfl ?_); refine box_event ?hg (N := 3) ?hd (cs := #[.int .i64 a1_0, .int .i64 a1_1, .int .i64 a1_2, .int .i64 a1_3, .int .i64 a1_4, .int .u64 a1_5, .int .u64 a1_6, .int .u64 a1_7]) (t := 24) ?hr ?_; (case hd => rfl); (case hg => rfl); (case hr => first | (go_simp; done) | (go_simp; rfl)); intro gb102 hg w49 hbox hb; have n0_ := Aside0.mk (blk_below (g := gb101) (o := .cells #[.int .i64 a0_0, .int .i64 a0_1, .int .i64 a0_2, .int .i64 a0_3, .int .i64 a0_4, .int .u64 a0_5, .int .u64 a0_6, .int .u64 a0_7] 24 (0, 0)) (by (with_reducible repeat (first | refine blk_drewN ?_ _ | refine blk_drew ?_ | refine blk_alloc ?_ _)); exact BK101.out) hb); have n1_ := Aside0.mk (below_step (by repeat (first | (with_reducible first | exact HB.out | apply below_alloc | apply pw_below_drewN | apply below_drew1 | refine below_set ?_ GE101.out) | exact HB.out)) hb); have n2_ := Aside0.mk (hbox); have n3_ := Aside0.mk ((by rw [hg]; exact (below_size (by repeat (first | (with_reducible first | exact HB.out | apply below_alloc | apply pw_below_drewN | apply below_drew1 | refine below_set ?_ GE101.out) | exact HB.out))) : w.heap.size ≤ gb102)); have n4_ := Aside0.mk ((by rw [hg]; exact (below_size (by repeat (first | (with_reducible first | exact HB.out | apply below_alloc | apply pw_below_drewN | apply below_drew1 | refine below_set ?_ GE101.out) | exact HB.out))) : w.heap.size ≤ gb102)); have n5_ := Aside0.mk ((by rw [hg]; exact Nat.ne_of_lt (blk_lt (g := gb101) (o := .cells #[.int .i64 a0_0, .int .i64 a0_1, .int .i64 a0_2, .int .i64 a0_3, .int .i64 a0_4, .int .u64 a0_5, .int .u64 a0_6, .int .u64 a0_7] 24 (0, 0)) (by (with_reducible repeat (first | refine blk_drewN ?_ _ | refine blk_drew ?_ | refine blk_alloc ?_ _)); exact BK101.out)) : gb101 ≠ gb102)); have n6_ := Aside0.mk ((by rw [hg]; exact Nat.ne_of_gt (blk_lt (g := gb101) (o := .cells #[.int .i64 a0_0, .int .i64 a0_1, .int .i64 a0_2, .int .i64 a0_3, .int .i64 a0_4, .int .u64 a0_5, .int .u64 a0_6, .int .u64 a0_7] 24 (0, 0)) (by (with_reducible repeat (first | refine blk_drewN ?_ _ | refine blk_drew ?_ | refine blk_alloc ?_ _)); exact BK101.out)) : gb102 ≠ gb101)); clear BK101; clear HB; have BK101 := n0_; have HB := n1_; have BK102 := n2_; have GW102 := n3_; have GE102 := n4_; have NB101_102 := n5_; have NB102_101 := n6_; clear n0_ n1_ n2_ n3_ n4_ n5_ n6_; clear hb hbox hg; have hnb50 := NB101_102.out; have hnc50 := NB102_101.out; have hcz51_0 : w49.cell? ⟨gb101, 0, none⟩ = some (.int .i64 a0_0) := (blk_cell BK101.out 0).trans rfl; have hcz51_1 : w49.cell? ⟨gb101, 1, none⟩ = some (.int .i64 a0_1) := (blk_cell BK101.out 1).trans rfl; have hcz51_2 : w49.cell? ⟨gb101, 2, none⟩ = some (.int .i64 a0_2) := (blk_cell BK101.out 2).trans rfl; have hcz51_3 : w49.cell? ⟨gb101, 3, none⟩ = some (.int .i64 a0_3) := (blk_cell BK101.out 3).trans rfl; have hcz51_4 : w49.cell? ⟨gb101, 4, none⟩ = some (.int .i64 a0_4) := (blk_cell BK101.out 4).trans rfl; have hcz51_5 : w49.cell? ⟨gb101, 5, none⟩ = some (.int .u64 a0_5) := (blk_cell BK101.out 5).trans rfl; have hcz51_6 : w49.cell? ⟨gb101, 6, none⟩ = some (.int .u64 a0_6) := (blk_cell BK101.out 6).trans rfl; have hcz51_7 : w49.cell? ⟨gb101, 7, none⟩ = some (.int .u64 a0_7) := (blk_cell BK101.out 7).trans rfl; have hfz51_0 := blk_frozen BK101.out 0; have hfz51_1 := blk_frozen BK101.out 1; have hfz51_2 := blk_frozen BK101.out 2; have hfz51_3 := blk_frozen BK101.out 3; have hfz51_4 := blk_frozen BK101.out 4; have hfz51_5 := blk_frozen BK101.out 5; have hfz51_6 := blk_frozen BK101.out 6; have hfz51_7 := blk_frozen BK101.out 7; have hcz52_0 : w49.cell? ⟨gb102, 0, none⟩ = some (.int .i64 a1_0) := (blk_cell BK102.out 0).trans rfl; have hcz52_1 : w49.cell? ⟨gb102, 1, none⟩ = some (.int .i64 a1_1) := (blk_cell BK102.out 1).trans rfl; have hcz52_2 : w49.cell? ⟨gb102, 2, none⟩ = some (.int .i64 a1_2) := (blk_cell BK102.out 2).trans rfl; have hcz52_3 : w49.cell? ⟨gb102, 3, none⟩ = some (.int .i64 a1_3) := (blk_cell BK102.out 3).trans rfl; have hcz52_4 : w49.cell? ⟨gb102, 4, none⟩ = some (.int .i64 a1_4) := (blk_cell BK102.out 4).trans rfl; have hcz52_5 : w49.cell? ⟨gb102, 5, none⟩ = some (.int .u64 a1_5) := (blk_cell BK102.out 5).trans rfl; have hcz52_6 : w49.cell? ⟨gb102, 6, none⟩ = some (.int .u64 a1_6) := (blk_cell BK102.out 6).trans rfl; have hcz52_7 : w49.cell? ⟨gb102, 7, none⟩ = some (.int .u64 a1_7) := (blk_cell BK102.out 7).trans rfl; have hfz52_0 := blk_frozen BK102.out 0; have hfz52_1 := blk_frozen BK102.out 1; have hfz52_2 := blk_frozen BK102.out 2; have hfz52_3 := blk_frozen BK102.out 3; have hfz52_4 := blk_frozen BK102.out 4; have hfz52_5 := blk_frozen BK102.out 5; have hfz52_6 := blk_frozen BK102.out 6; have hfz52_7 := blk_frozen BK102.out 7))
    go_ret
    exact ⟨by first | rfl | (simp [errW_none, errW_some] <;> rfl) | (simp [*, errW_none, errW_some] <;> rfl), by repeat (first | (with_reducible first | exact HB.out | apply below_alloc | apply pw_below_drewN | apply below_drew1 | refine below_set ?_ GE101.out | refine below_set ?_ GE102.out) | exact HB.out)⟩

/-! ### haulierlaw11_awake: function 11 -/
def haulierlaw11_awake.f  : Option (Bool) := (relax_Join.f (([(⟨4, 0, 5, 0, 0, 6, 6, 0⟩ : S24), (⟨4, 0, 4, 0, 0, 10, 10, 0⟩ : S24)] : List (S24)))).bind fun bt109 => (if bt109.2.2.2.2.2.2.2.2 = true then (if (bt109.1 == 4 && (bt109.2.1 == 0 && (bt109.2.2.1 == 4 && (bt109.2.2.2.1 == 0 && (bt109.2.2.2.2.1 == 0 && (bt109.2.2.2.2.2.1 == 2 && (bt109.2.2.2.2.2.2.1 == 14 && (bt109.2.2.2.2.2.2.2.1 == 0)))))))) = true then ((relax_Covers.f bt109.1 bt109.2.1 bt109.2.2.1 bt109.2.2.2.1 bt109.2.2.2.2.1 bt109.2.2.2.2.2.1 bt109.2.2.2.2.2.2.1 bt109.2.2.2.2.2.2.2.1 4 0 5 0 0 6 6 0).bind fun t119 => (some t119)) else (some false)) else (some false))
set_option maxHeartbeats 8000000 in
set_option maxRecDepth 100000 in
theorem haulierlaw11_awake.calls  (r : Bool) (w : World) (h : haulierlaw11_awake.f  = some r) :
    Calls Try.prog 11 #[] w fun e w' => e = .returned (.bool r) ∧ Below w.heap.size w w' := by
  have hu24 := Try.underlying24
  have HB := Aside0.mk (Below.refl w.heap.size w)
  have H : ((relax_Join.f (([(⟨4, 0, 5, 0, 0, 6, 6, 0⟩ : S24), (⟨4, 0, 4, 0, 0, 10, 10, 0⟩ : S24)] : List (S24)))).bind fun bt109 => (if bt109.2.2.2.2.2.2.2.2 = true then (if (bt109.1 == 4 && (bt109.2.1 == 0 && (bt109.2.2.1 == 4 && (bt109.2.2.2.1 == 0 && (bt109.2.2.2.2.1 == 0 && (bt109.2.2.2.2.2.1 == 2 && (bt109.2.2.2.2.2.2.1 == 14 && (bt109.2.2.2.2.2.2.2.1 == 0)))))))) = true then ((relax_Covers.f bt109.1 bt109.2.1 bt109.2.2.1 bt109.2.2.2.1 bt109.2.2.2.2.1 bt109.2.2.2.2.2.1 bt109.2.2.2.2.2.2.1 bt109.2.2.2.2.2.2.2.1 4 0 5 0 0 6 6 0).bind fun t119 => (some t119)) else (some false)) else (some false))) = some r := h
  clear h
  obtain ⟨y106, hy106⟩ : ∃ y_ : List (S24), y_ = (([(⟨4, 0, 5, 0, 0, 6, 6, 0⟩ : S24), (⟨4, 0, 4, 0, 0, 10, 10, 0⟩ : S24)] : List (S24))) := ⟨_, rfl⟩
  replace H : ((relax_Join.f y106).bind fun bt109 => (if bt109.2.2.2.2.2.2.2.2 = true then (if (bt109.1 == 4 && (bt109.2.1 == 0 && (bt109.2.2.1 == 4 && (bt109.2.2.2.1 == 0 && (bt109.2.2.2.2.1 == 0 && (bt109.2.2.2.2.2.1 == 2 && (bt109.2.2.2.2.2.2.1 == 14 && (bt109.2.2.2.2.2.2.2.1 == 0)))))))) = true then ((relax_Covers.f bt109.1 bt109.2.1 bt109.2.2.1 bt109.2.2.2.1 bt109.2.2.2.2.1 bt109.2.2.2.2.2.1 bt109.2.2.2.2.2.2.1 bt109.2.2.2.2.2.2.2.1 4 0 5 0 0 6 6 0).bind fun t119 => (some t119)) else (some false)) else (some false))) = some r := by first | (rw [hy106]; with_reducible exact H) | (have H2_ := (Option.bind_some _ _).symm.trans H; rw [hy106]; with_reducible exact H2_) | (have H2_ := (Option.bind_some _ _).symm.trans H; with_reducible exact H2_) | with_reducible exact H | (rw [hy106]; exact H) | exact H
  have Ny106 := Aside0.mk hy106
  clear hy106
  replace H := Option.bind_eq_some_iff.mp H
  obtain ⟨⟨t109, t110, t111, t112, t113, t114, t115, t116, t117⟩, A10, H⟩ := H
  replace H : (if t117 = true then (if (t109 == 4 && (t110 == 0 && (t111 == 4 && (t112 == 0 && (t113 == 0 && (t114 == 2 && (t115 == 14 && (t116 == 0)))))))) = true then ((relax_Covers.f t109 t110 t111 t112 t113 t114 t115 t116 4 0 5 0 0 6 6 0).bind fun t119 => (some t119)) else (some false)) else (some false)) = some r := H
  have A1 := Aside0.mk A10
  clear A10
  by_cases c2 : t117 = true
  · subst c2
    have H1 : (if (t109 == 4 && (t110 == 0 && (t111 == 4 && (t112 == 0 && (t113 == 0 && (t114 == 2 && (t115 == 14 && (t116 == 0)))))))) = true then ((relax_Covers.f t109 t110 t111 t112 t113 t114 t115 t116 4 0 5 0 0 6 6 0).bind fun t119 => (some t119)) else (some false)) = some r := by rw [if_pos rfl] at H; exact H
    clear H
    have H := H1
    clear H1
    by_cases c3 : (t109 == 4 && (t110 == 0 && (t111 == 4 && (t112 == 0 && (t113 == 0 && (t114 == 2 && (t115 == 14 && (t116 == 0)))))))) = true
    · rw [if_pos c3] at H
      have c3b0 : (t109 == 4 && (t110 == 0 && (t111 == 4 && (t112 == 0 && (t113 == 0 && (t114 == 2 && (t115 == 14 && (t116 == 0)))))))) = true := c3
      (try (have c3b1 : decide (t109 = 4 && (t110 == 0 && (t111 == 4 && (t112 == 0 && (t113 == 0 && (t114 == 2 && (t115 == 14 && (t116 == 0)))))))) = true := by simpa using c3))
      (try (have c3b2 : (t109 == 4 && (t110 == 0 && (t111 == 4 && (t112 == 0 && (t113 == 0 && (t114 == 2 && (t115 == 14 && (t116 == 0)))))))) = true := by simpa using c3))
      clear c3
      replace H := Option.bind_eq_some_iff.mp H
      obtain ⟨t119, A40, H⟩ := H
      replace H : (some t119) = some r := H
      have A4 := Aside0.mk A40
      clear A40
      obtain rfl := Option.some.inj H
      go_enter Try.func11, Try.ntmps11
      go_wp2_with (first | ((with_reducible refine gate_dst (N := 6) rfl ?_); refine Kd.R_lit k24 _ 24 ?hg (N := 6) ?hd (xs := ([(⟨4, 0, 5, 0, 0, 6, 6, 0⟩ : S24), (⟨4, 0, 4, 0, 0, 10, 10, 0⟩ : S24)] : List (S24))) (inner := [.int .i64 4, .int .i64 0, .int .i64 5, .int .i64 0, .int .i64 0, .int .u64 6, .int .u64 6, .int .u64 0, .int .i64 4, .int .i64 0, .int .i64 4, .int .i64 0, .int .i64 0, .int .u64 10, .int .u64 10, .int .u64 0]) (ok := fun _ => True) (okp := fun _ => True) ?hr ?hp (fun _ hk => hk) trivial (Below.refl _ _) (Nat.le_refl _) (by simp) ?_; (case hd => rfl); (case hg => rfl); (case hr => first | (go_simp; done) | (go_simp; rfl)); (case hp => exact (Reps.c8 (show Kd.M k24 _ _ _ (⟨4, 0, 5, 0, 0, 6, 6, 0⟩ : S24) [.int .i64 4, .int .i64 0, .int .i64 5, .int .i64 0, .int .i64 0, .int .u64 6, .int .u64 6, .int .u64 0] from (k24_mkM _ _ _ (⟨4, 0, 5, 0, 0, 6, 6, 0⟩ : S24) )) (Reps.c8 (show Kd.M k24 _ _ _ (⟨4, 0, 4, 0, 0, 10, 10, 0⟩ : S24) [.int .i64 4, .int .i64 0, .int .i64 4, .int .i64 0, .int .i64 0, .int .u64 10, .int .u64 10, .int .u64 0] from (k24_mkM _ _ _ (⟨4, 0, 4, 0, 0, 10, 10, 0⟩ : S24) )) (Reps.none _ _)))); intro v107 w5 ho6 hb hg_ hnew_; clear hg_ hnew_; (first | rw [← Ny106.out] at ho6 | (simp only [Int.reduceToNat] at ho6; rw [← Ny106.out] at ho6)); have n0_ := Aside0.mk (Kd.R_lower ho6 (below_size (by repeat (first | (with_reducible first | exact HB.out | apply below_alloc | apply pw_below_drewN | apply below_drew1) | exact HB.out)))); have n1_ := Aside0.mk (below_step (by repeat (first | (with_reducible first | exact HB.out | apply below_alloc | apply pw_below_drewN | apply below_drew1) | exact HB.out)) hb); clear HB; have HO108 := n0_; have HB := n1_; clear n0_ n1_; clear hb ho6; obtain ⟨Ao7, co7, eo7⟩ := Kd.R_slice HO108.out; subst eo7) | ((with_reducible refine gate_callee (f := 12) rfl ?_); refine goesL_ (some 7) rfl rfl Try.func12 (by kernel_rfl) rfl #[.slice Ao7 y106.length co7] rfl (by (try simp only [List.map_toArray, List.map_cons, List.map_nil]); first | done | rfl | (simp only [List.length_drop, List.length_take]; rfl)) ?_; (with_reducible refine (relax_Join.calls _ _ y106 t109 t110 t111 t112 t113 t114 t115 t116 true _ ?side1 ?side2 A1.out).mono ?_); (case side1 => repeat (first | exact (Kd.R_reads' HO108.out).2.2 | (with_reducible refine Kd.C_alloc ?_ _) | (with_reducible refine Kd.C_drewN ?_ _) | (with_reducible refine Kd.C_drew ?_))); (case side2 => exact (Kd.R_reads' HO108.out).2.1); rintro e w8 ⟨rfl, hb⟩; refine ⟨_, rfl, ?_⟩; have n0_ := Aside0.mk (Kd.R_below (by (with_reducible repeat (first | apply Kd.R_alloc | apply Kd.R_drewN | apply Kd.R_drew)); exact HO108.out) hb); have n1_ := Aside0.mk (below_step (by repeat (first | (with_reducible first | exact HB.out | apply below_alloc | apply pw_below_drewN | apply below_drew1) | exact HB.out)) hb); clear HO108; clear HB; have HO108 := n0_; have HB := n1_; clear n0_ n1_; (try clear hb); (try clear hb2); (try clear hk); (try clear hi)) | ((with_reducible refine gate_dst (N := 1) rfl ?_); refine box_event ?hg (N := 1) ?hd (cs := #[.int .i64 0, .int .i64 0, .int .i64 0, .int .i64 0, .int .i64 0, .int .u64 0, .int .u64 0, .int .u64 0]) (t := 24) ?hr ?_; (case hd => rfl); (case hg => rfl); (case hr => first | (go_simp; done) | (go_simp; rfl)); intro gb118 hg w9 hbox hb; have n0_ := Aside0.mk (Kd.R_below (Kd.R_elderB (by (with_reducible repeat (first | apply Kd.R_alloc | apply Kd.R_drewN | apply Kd.R_drew)); exact HO108.out) gb118 (Nat.le_of_eq hg.symm)) hb); have n1_ := Aside0.mk (below_step (by repeat (first | (with_reducible first | exact HB.out | apply below_alloc | apply pw_below_drewN | apply below_drew1) | exact HB.out)) hb); have n2_ := Aside0.mk (hbox); have n3_ := Aside0.mk ((by rw [hg]; exact (below_size (by repeat (first | (with_reducible first | exact HB.out | apply below_alloc | apply pw_below_drewN | apply below_drew1) | exact HB.out))) : w.heap.size ≤ gb118)); have n4_ := Aside0.mk ((by rw [hg]; exact (below_size (by repeat (first | (with_reducible first | exact HB.out | apply below_alloc | apply pw_below_drewN | apply below_drew1) | exact HB.out))) : w.heap.size ≤ gb118)); clear HO108; clear HB; have HO108 := n0_; have HB := n1_; have BK118 := n2_; have GW118 := n3_; have GE118 := n4_; clear n0_ n1_ n2_ n3_ n4_; clear hb hbox hg; have hcz10_0 : w9.cell? ⟨gb118, 0, none⟩ = some (.int .i64 0) := (blk_cell BK118.out 0).trans rfl; have hcz10_1 : w9.cell? ⟨gb118, 1, none⟩ = some (.int .i64 0) := (blk_cell BK118.out 1).trans rfl; have hcz10_2 : w9.cell? ⟨gb118, 2, none⟩ = some (.int .i64 0) := (blk_cell BK118.out 2).trans rfl; have hcz10_3 : w9.cell? ⟨gb118, 3, none⟩ = some (.int .i64 0) := (blk_cell BK118.out 3).trans rfl; have hcz10_4 : w9.cell? ⟨gb118, 4, none⟩ = some (.int .i64 0) := (blk_cell BK118.out 4).trans rfl; have hcz10_5 : w9.cell? ⟨gb118, 5, none⟩ = some (.int .u64 0) := (blk_cell BK118.out 5).trans rfl; have hcz10_6 : w9.cell? ⟨gb118, 6, none⟩ = some (.int .u64 0) := (blk_cell BK118.out 6).trans rfl; have hcz10_7 : w9.cell? ⟨gb118, 7, none⟩ = some (.int .u64 0) := (blk_cell BK118.out 7).trans rfl; have hfz10_0 := blk_frozen BK118.out 0; have hfz10_1 := blk_frozen BK118.out 1; have hfz10_2 := blk_frozen BK118.out 2; have hfz10_3 := blk_frozen BK118.out 3; have hfz10_4 := blk_frozen BK118.out 4; have hfz10_5 := blk_frozen BK118.out 5; have hfz10_6 := blk_frozen BK118.out 6; have hfz10_7 := blk_frozen BK118.out 7) | (go_at_call 14; (with_reducible refine (relax_Covers.calls t109 t110 t111 t112 t113 t114 t115 t116 4 0 5 0 0 6 6 0 t119 _ A4.out).mono ?_); rintro e w11 ⟨rfl, hb⟩; have n0_ := Aside0.mk (Kd.R_below (by (with_reducible repeat (first | apply Kd.R_alloc | apply Kd.R_drewN | apply Kd.R_drew)); exact (Kd.R_mono (Kd.R_far (p := ⟨gb118, 7, none⟩) (Kd.R_far (p := ⟨gb118, 6, none⟩) (Kd.R_far (p := ⟨gb118, 5, none⟩) (Kd.R_far (p := ⟨gb118, 4, none⟩) (Kd.R_far (p := ⟨gb118, 3, none⟩) (Kd.R_far (p := ⟨gb118, 2, none⟩) (Kd.R_far (p := ⟨gb118, 1, none⟩) (Kd.R_far (p := ⟨gb118, 0, none⟩) (Kd.R_mono HO108.out (fun k_ hk => (⟨hk, hk.2⟩ : _ ∧ k_ ≠ gb118))) (fun _ hk => hk.2) (.int .i64 t109)) (fun _ hk => hk.2) (.int .i64 t110)) (fun _ hk => hk.2) (.int .i64 t111)) (fun _ hk => hk.2) (.int .i64 t112)) (fun _ hk => hk.2) (.int .i64 t113)) (fun _ hk => hk.2) (.int .u64 t114)) (fun _ hk => hk.2) (.int .u64 t115)) (fun _ hk => hk.2) (.int .u64 t116)) (fun _ h_ => h_.1))) hb); have n1_ := Aside0.mk (blk_below (g := gb118) (o := .cells #[.int .i64 t109, .int .i64 t110, .int .i64 t111, .int .i64 t112, .int .i64 t113, .int .u64 t114, .int .u64 t115, .int .u64 t116] 24 (0, 0)) (by (with_reducible repeat (first | refine blk_drewN ?_ _ | refine blk_drew ?_ | refine blk_alloc ?_ _)); refine blk_put (cs := #[.int .i64 t109, .int .i64 t110, .int .i64 t111, .int .i64 t112, .int .i64 t113, .int .u64 t114, .int .u64 t115, .int .u64 0]) ?_ 7 _ rfl; (with_reducible repeat (first | refine blk_drewN ?_ _ | refine blk_drew ?_ | refine blk_alloc ?_ _)); refine blk_put (cs := #[.int .i64 t109, .int .i64 t110, .int .i64 t111, .int .i64 t112, .int .i64 t113, .int .u64 t114, .int .u64 0, .int .u64 0]) ?_ 6 _ rfl; (with_reducible repeat (first | refine blk_drewN ?_ _ | refine blk_drew ?_ | refine blk_alloc ?_ _)); refine blk_put (cs := #[.int .i64 t109, .int .i64 t110, .int .i64 t111, .int .i64 t112, .int .i64 t113, .int .u64 0, .int .u64 0, .int .u64 0]) ?_ 5 _ rfl; (with_reducible repeat (first | refine blk_drewN ?_ _ | refine blk_drew ?_ | refine blk_alloc ?_ _)); refine blk_put (cs := #[.int .i64 t109, .int .i64 t110, .int .i64 t111, .int .i64 t112, .int .i64 0, .int .u64 0, .int .u64 0, .int .u64 0]) ?_ 4 _ rfl; (with_reducible repeat (first | refine blk_drewN ?_ _ | refine blk_drew ?_ | refine blk_alloc ?_ _)); refine blk_put (cs := #[.int .i64 t109, .int .i64 t110, .int .i64 t111, .int .i64 0, .int .i64 0, .int .u64 0, .int .u64 0, .int .u64 0]) ?_ 3 _ rfl; (with_reducible repeat (first | refine blk_drewN ?_ _ | refine blk_drew ?_ | refine blk_alloc ?_ _)); refine blk_put (cs := #[.int .i64 t109, .int .i64 t110, .int .i64 0, .int .i64 0, .int .i64 0, .int .u64 0, .int .u64 0, .int .u64 0]) ?_ 2 _ rfl; (with_reducible repeat (first | refine blk_drewN ?_ _ | refine blk_drew ?_ | refine blk_alloc ?_ _)); refine blk_put (cs := #[.int .i64 t109, .int .i64 0, .int .i64 0, .int .i64 0, .int .i64 0, .int .u64 0, .int .u64 0, .int .u64 0]) ?_ 1 _ rfl; (with_reducible repeat (first | refine blk_drewN ?_ _ | refine blk_drew ?_ | refine blk_alloc ?_ _)); refine blk_put (cs := #[.int .i64 0, .int .i64 0, .int .i64 0, .int .i64 0, .int .i64 0, .int .u64 0, .int .u64 0, .int .u64 0]) ?_ 0 _ rfl; (with_reducible repeat (first | refine blk_drewN ?_ _ | refine blk_drew ?_ | refine blk_alloc ?_ _)); exact BK118.out) hb); have n2_ := Aside0.mk (below_step (by repeat (first | (with_reducible first | exact HB.out | apply below_alloc | apply pw_below_drewN | apply below_drew1 | refine below_set ?_ GE118.out) | exact HB.out)) hb); clear HO108; clear BK118; clear HB; have HO108 := n0_; have BK118 := n1_; have HB := n2_; clear n0_ n1_ n2_; (try clear hb); (try clear hb2); (try clear hk); (try clear hi)))
      go_ret
      exact ⟨by first | rfl | (simp [errW_none, errW_some] <;> rfl) | (simp [*, errW_none, errW_some] <;> rfl), by repeat (first | (with_reducible first | exact HB.out | apply below_alloc | apply pw_below_drewN | apply below_drew1 | refine below_set ?_ GE118.out) | exact HB.out)⟩
    · rw [if_neg c3] at H
      have c3b0 : (t109 == 4 && (t110 == 0 && (t111 == 4 && (t112 == 0 && (t113 == 0 && (t114 == 2 && (t115 == 14 && (t116 == 0)))))))) = false := by simpa using c3
      (try (have c3b1 : decide (t109 = 4 && (t110 == 0 && (t111 == 4 && (t112 == 0 && (t113 == 0 && (t114 == 2 && (t115 == 14 && (t116 == 0)))))))) = false := by simpa using c3))
      (try (have c3b2 : (t109 == 4 && (t110 == 0 && (t111 == 4 && (t112 == 0 && (t113 == 0 && (t114 == 2 && (t115 == 14 && (t116 == 0)))))))) = false := by simpa using c3))
      (try (have c3b3 : ¬ (t109 = 4 && (t110 == 0 && (t111 == 4 && (t112 == 0 && (t113 == 0 && (t114 == 2 && (t115 == 14 && (t116 == 0)))))))) := by simpa using c3))
      clear c3
      obtain rfl := Option.some.inj H
      go_enter Try.func11, Try.ntmps11
      go_wp2_with (first | ((with_reducible refine gate_dst (N := 6) rfl ?_); refine Kd.R_lit k24 _ 24 ?hg (N := 6) ?hd (xs := ([(⟨4, 0, 5, 0, 0, 6, 6, 0⟩ : S24), (⟨4, 0, 4, 0, 0, 10, 10, 0⟩ : S24)] : List (S24))) (inner := [.int .i64 4, .int .i64 0, .int .i64 5, .int .i64 0, .int .i64 0, .int .u64 6, .int .u64 6, .int .u64 0, .int .i64 4, .int .i64 0, .int .i64 4, .int .i64 0, .int .i64 0, .int .u64 10, .int .u64 10, .int .u64 0]) (ok := fun _ => True) (okp := fun _ => True) ?hr ?hp (fun _ hk => hk) trivial (Below.refl _ _) (Nat.le_refl _) (by simp) ?_; (case hd => rfl); (case hg => rfl); (case hr => first | (go_simp; done) | (go_simp; rfl)); (case hp => exact (Reps.c8 (show Kd.M k24 _ _ _ (⟨4, 0, 5, 0, 0, 6, 6, 0⟩ : S24) [.int .i64 4, .int .i64 0, .int .i64 5, .int .i64 0, .int .i64 0, .int .u64 6, .int .u64 6, .int .u64 0] from (k24_mkM _ _ _ (⟨4, 0, 5, 0, 0, 6, 6, 0⟩ : S24) )) (Reps.c8 (show Kd.M k24 _ _ _ (⟨4, 0, 4, 0, 0, 10, 10, 0⟩ : S24) [.int .i64 4, .int .i64 0, .int .i64 4, .int .i64 0, .int .i64 0, .int .u64 10, .int .u64 10, .int .u64 0] from (k24_mkM _ _ _ (⟨4, 0, 4, 0, 0, 10, 10, 0⟩ : S24) )) (Reps.none _ _)))); intro v107 w12 ho13 hb hg_ hnew_; clear hg_ hnew_; (first | rw [← Ny106.out] at ho13 | (simp only [Int.reduceToNat] at ho13; rw [← Ny106.out] at ho13)); have n0_ := Aside0.mk (Kd.R_lower ho13 (below_size (by repeat (first | (with_reducible first | exact HB.out | apply below_alloc | apply pw_below_drewN | apply below_drew1) | exact HB.out)))); have n1_ := Aside0.mk (below_step (by repeat (first | (with_reducible first | exact HB.out | apply below_alloc | apply pw_below_drewN | apply below_drew1) | exact HB.out)) hb); clear HB; have HO108 := n0_; have HB := n1_; clear n0_ n1_; clear hb ho13; obtain ⟨Ao14, co14, eo14⟩ := Kd.R_slice HO108.out; subst eo14) | ((with_reducible refine gate_callee (f := 12) rfl ?_); refine goesL_ (some 7) rfl rfl Try.func12 (by kernel_rfl) rfl #[.slice Ao14 y106.length co14] rfl (by (try simp only [List.map_toArray, List.map_cons, List.map_nil]); first | done | rfl | (simp only [List.length_drop, List.length_take]; rfl)) ?_; (with_reducible refine (relax_Join.calls _ _ y106 t109 t110 t111 t112 t113 t114 t115 t116 true _ ?side1 ?side2 A1.out).mono ?_); (case side1 => repeat (first | exact (Kd.R_reads' HO108.out).2.2 | (with_reducible refine Kd.C_alloc ?_ _) | (with_reducible refine Kd.C_drewN ?_ _) | (with_reducible refine Kd.C_drew ?_))); (case side2 => exact (Kd.R_reads' HO108.out).2.1); rintro e w15 ⟨rfl, hb⟩; refine ⟨_, rfl, ?_⟩; have n0_ := Aside0.mk (Kd.R_below (by (with_reducible repeat (first | apply Kd.R_alloc | apply Kd.R_drewN | apply Kd.R_drew)); exact HO108.out) hb); have n1_ := Aside0.mk (below_step (by repeat (first | (with_reducible first | exact HB.out | apply below_alloc | apply pw_below_drewN | apply below_drew1) | exact HB.out)) hb); clear HO108; clear HB; have HO108 := n0_; have HB := n1_; clear n0_ n1_; (try clear hb); (try clear hb2); (try clear hk); (try clear hi)) | ((with_reducible refine gate_dst (N := 1) rfl ?_); refine box_event ?hg (N := 1) ?hd (cs := #[.int .i64 0, .int .i64 0, .int .i64 0, .int .i64 0, .int .i64 0, .int .u64 0, .int .u64 0, .int .u64 0]) (t := 24) ?hr ?_; (case hd => rfl); (case hg => rfl); (case hr => first | (go_simp; done) | (go_simp; rfl)); intro gb118 hg w16 hbox hb; have n0_ := Aside0.mk (Kd.R_below (Kd.R_elderB (by (with_reducible repeat (first | apply Kd.R_alloc | apply Kd.R_drewN | apply Kd.R_drew)); exact HO108.out) gb118 (Nat.le_of_eq hg.symm)) hb); have n1_ := Aside0.mk (below_step (by repeat (first | (with_reducible first | exact HB.out | apply below_alloc | apply pw_below_drewN | apply below_drew1) | exact HB.out)) hb); have n2_ := Aside0.mk (hbox); have n3_ := Aside0.mk ((by rw [hg]; exact (below_size (by repeat (first | (with_reducible first | exact HB.out | apply below_alloc | apply pw_below_drewN | apply below_drew1) | exact HB.out))) : w.heap.size ≤ gb118)); have n4_ := Aside0.mk ((by rw [hg]; exact (below_size (by repeat (first | (with_reducible first | exact HB.out | apply below_alloc | apply pw_below_drewN | apply below_drew1) | exact HB.out))) : w.heap.size ≤ gb118)); clear HO108; clear HB; have HO108 := n0_; have HB := n1_; have BK118 := n2_; have GW118 := n3_; have GE118 := n4_; clear n0_ n1_ n2_ n3_ n4_; clear hb hbox hg; have hcz17_0 : w16.cell? ⟨gb118, 0, none⟩ = some (.int .i64 0) := (blk_cell BK118.out 0).trans rfl; have hcz17_1 : w16.cell? ⟨gb118, 1, none⟩ = some (.int .i64 0) := (blk_cell BK118.out 1).trans rfl; have hcz17_2 : w16.cell? ⟨gb118, 2, none⟩ = some (.int .i64 0) := (blk_cell BK118.out 2).trans rfl; have hcz17_3 : w16.cell? ⟨gb118, 3, none⟩ = some (.int .i64 0) := (blk_cell BK118.out 3).trans rfl; have hcz17_4 : w16.cell? ⟨gb118, 4, none⟩ = some (.int .i64 0) := (blk_cell BK118.out 4).trans rfl; have hcz17_5 : w16.cell? ⟨gb118, 5, none⟩ = some (.int .u64 0) := (blk_cell BK118.out 5).trans rfl; have hcz17_6 : w16.cell? ⟨gb118, 6, none⟩ = some (.int .u64 0) := (blk_cell BK118.out 6).trans rfl; have hcz17_7 : w16.cell? ⟨gb118, 7, none⟩ = some (.int .u64 0) := (blk_cell BK118.out 7).trans rfl; have hfz17_0 := blk_frozen BK118.out 0; have hfz17_1 := blk_frozen BK118.out 1; have hfz17_2 := blk_frozen BK118.out 2; have hfz17_3 := blk_frozen BK118.out 3; have hfz17_4 := blk_frozen BK118.out 4; have hfz17_5 := blk_frozen BK118.out 5; have hfz17_6 := blk_frozen BK118.out 6; have hfz17_7 := blk_frozen BK118.out 7))
      go_ret
      exact ⟨by first | rfl | (simp [errW_none, errW_some] <;> rfl) | (simp [*, errW_none, errW_some] <;> rfl), by repeat (first | (with_reducible first | exact HB.out | apply below_alloc | apply pw_below_drewN | apply below_drew1 | refine below_set ?_ GE118.out) | exact HB.out)⟩
  · replace c2 := Bool.eq_false_iff.mpr c2
    subst c2
    have H1 : (some false) = some r := by rw [if_neg (show ¬ (false = true) by decide)] at H; exact H
    clear H
    have H := H1
    clear H1
    obtain rfl := Option.some.inj H
    go_enter Try.func11, Try.ntmps11
    go_wp2_with (first | ((with_reducible refine gate_dst (N := 6) rfl ?_); refine Kd.R_lit k24 _ 24 ?hg (N := 6) ?hd (xs := ([(⟨4, 0, 5, 0, 0, 6, 6, 0⟩ : S24), (⟨4, 0, 4, 0, 0, 10, 10, 0⟩ : S24)] : List (S24))) (inner := [.int .i64 4, .int .i64 0, .int .i64 5, .int .i64 0, .int .i64 0, .int .u64 6, .int .u64 6, .int .u64 0, .int .i64 4, .int .i64 0, .int .i64 4, .int .i64 0, .int .i64 0, .int .u64 10, .int .u64 10, .int .u64 0]) (ok := fun _ => True) (okp := fun _ => True) ?hr ?hp (fun _ hk => hk) trivial (Below.refl _ _) (Nat.le_refl _) (by simp) ?_; (case hd => rfl); (case hg => rfl); (case hr => first | (go_simp; done) | (go_simp; rfl)); (case hp => exact (Reps.c8 (show Kd.M k24 _ _ _ (⟨4, 0, 5, 0, 0, 6, 6, 0⟩ : S24) [.int .i64 4, .int .i64 0, .int .i64 5, .int .i64 0, .int .i64 0, .int .u64 6, .int .u64 6, .int .u64 0] from (k24_mkM _ _ _ (⟨4, 0, 5, 0, 0, 6, 6, 0⟩ : S24) )) (Reps.c8 (show Kd.M k24 _ _ _ (⟨4, 0, 4, 0, 0, 10, 10, 0⟩ : S24) [.int .i64 4, .int .i64 0, .int .i64 4, .int .i64 0, .int .i64 0, .int .u64 10, .int .u64 10, .int .u64 0] from (k24_mkM _ _ _ (⟨4, 0, 4, 0, 0, 10, 10, 0⟩ : S24) )) (Reps.none _ _)))); intro v107 w18 ho19 hb hg_ hnew_; clear hg_ hnew_; (first | rw [← Ny106.out] at ho19 | (simp only [Int.reduceToNat] at ho19; rw [← Ny106.out] at ho19)); have n0_ := Aside0.mk (Kd.R_lower ho19 (below_size (by repeat (first | (with_reducible first | exact HB.out | apply below_alloc | apply pw_below_drewN | apply below_drew1) | exact HB.out)))); have n1_ := Aside0.mk (below_step (by repeat (first | (with_reducible first | exact HB.out | apply below_alloc | apply pw_below_drewN | apply below_drew1) | exact HB.out)) hb); clear HB; have HO108 := n0_; have HB := n1_; clear n0_ n1_; clear hb ho19; obtain ⟨Ao20, co20, eo20⟩ := Kd.R_slice HO108.out; subst eo20) | ((with_reducible refine gate_callee (f := 12) rfl ?_); refine goesL_ (some 7) rfl rfl Try.func12 (by kernel_rfl) rfl #[.slice Ao20 y106.length co20] rfl (by (try simp only [List.map_toArray, List.map_cons, List.map_nil]); first | done | rfl | (simp only [List.length_drop, List.length_take]; rfl)) ?_; (with_reducible refine (relax_Join.calls _ _ y106 t109 t110 t111 t112 t113 t114 t115 t116 false _ ?side1 ?side2 A1.out).mono ?_); (case side1 => repeat (first | exact (Kd.R_reads' HO108.out).2.2 | (with_reducible refine Kd.C_alloc ?_ _) | (with_reducible refine Kd.C_drewN ?_ _) | (with_reducible refine Kd.C_drew ?_))); (case side2 => exact (Kd.R_reads' HO108.out).2.1); rintro e w21 ⟨rfl, hb⟩; refine ⟨_, rfl, ?_⟩; have n0_ := Aside0.mk (Kd.R_below (by (with_reducible repeat (first | apply Kd.R_alloc | apply Kd.R_drewN | apply Kd.R_drew)); exact HO108.out) hb); have n1_ := Aside0.mk (below_step (by repeat (first | (with_reducible first | exact HB.out | apply below_alloc | apply pw_below_drewN | apply below_drew1) | exact HB.out)) hb); clear HO108; clear HB; have HO108 := n0_; have HB := n1_; clear n0_ n1_; (try clear hb); (try clear hb2); (try clear hk); (try clear hi)) | ((with_reducible refine gate_dst (N := 1) rfl ?_); refine box_event ?hg (N := 1) ?hd (cs := #[.int .i64 0, .int .i64 0, .int .i64 0, .int .i64 0, .int .i64 0, .int .u64 0, .int .u64 0, .int .u64 0]) (t := 24) ?hr ?_; (case hd => rfl); (case hg => rfl); (case hr => first | (go_simp; done) | (go_simp; rfl)); intro gb118 hg w22 hbox hb; have n0_ := Aside0.mk (Kd.R_below (Kd.R_elderB (by (with_reducible repeat (first | apply Kd.R_alloc | apply Kd.R_drewN | apply Kd.R_drew)); exact HO108.out) gb118 (Nat.le_of_eq hg.symm)) hb); have n1_ := Aside0.mk (below_step (by repeat (first | (with_reducible first | exact HB.out | apply below_alloc | apply pw_below_drewN | apply below_drew1) | exact HB.out)) hb); have n2_ := Aside0.mk (hbox); have n3_ := Aside0.mk ((by rw [hg]; exact (below_size (by repeat (first | (with_reducible first | exact HB.out | apply below_alloc | apply pw_below_drewN | apply below_drew1) | exact HB.out))) : w.heap.size ≤ gb118)); have n4_ := Aside0.mk ((by rw [hg]; exact (below_size (by repeat (first | (with_reducible first | exact HB.out | apply below_alloc | apply pw_below_drewN | apply below_drew1) | exact HB.out))) : w.heap.size ≤ gb118)); clear HO108; clear HB; have HO108 := n0_; have HB := n1_; have BK118 := n2_; have GW118 := n3_; have GE118 := n4_; clear n0_ n1_ n2_ n3_ n4_; clear hb hbox hg; have hcz23_0 : w22.cell? ⟨gb118, 0, none⟩ = some (.int .i64 0) := (blk_cell BK118.out 0).trans rfl; have hcz23_1 : w22.cell? ⟨gb118, 1, none⟩ = some (.int .i64 0) := (blk_cell BK118.out 1).trans rfl; have hcz23_2 : w22.cell? ⟨gb118, 2, none⟩ = some (.int .i64 0) := (blk_cell BK118.out 2).trans rfl; have hcz23_3 : w22.cell? ⟨gb118, 3, none⟩ = some (.int .i64 0) := (blk_cell BK118.out 3).trans rfl; have hcz23_4 : w22.cell? ⟨gb118, 4, none⟩ = some (.int .i64 0) := (blk_cell BK118.out 4).trans rfl; have hcz23_5 : w22.cell? ⟨gb118, 5, none⟩ = some (.int .u64 0) := (blk_cell BK118.out 5).trans rfl; have hcz23_6 : w22.cell? ⟨gb118, 6, none⟩ = some (.int .u64 0) := (blk_cell BK118.out 6).trans rfl; have hcz23_7 : w22.cell? ⟨gb118, 7, none⟩ = some (.int .u64 0) := (blk_cell BK118.out 7).trans rfl; have hfz23_0 := blk_frozen BK118.out 0; have hfz23_1 := blk_frozen BK118.out 1; have hfz23_2 := blk_frozen BK118.out 2; have hfz23_3 := blk_frozen BK118.out 3; have hfz23_4 := blk_frozen BK118.out 4; have hfz23_5 := blk_frozen BK118.out 5; have hfz23_6 := blk_frozen BK118.out 6; have hfz23_7 := blk_frozen BK118.out 7))
    go_ret
    exact ⟨by first | rfl | (simp [errW_none, errW_some] <;> rfl) | (simp [*, errW_none, errW_some] <;> rfl), by repeat (first | (with_reducible first | exact HB.out | apply below_alloc | apply pw_below_drewN | apply below_drew1 | refine below_set ?_ GE118.out) | exact HB.out)⟩

/-! ### haulierref11_least: function 25 -/
def haulierref11_least.f (a0 : Int) (a1 : Int) : Option (Int) := if a0 < a1 then (some a0) else (some a1)
set_option maxHeartbeats 8000000 in
set_option maxRecDepth 100000 in
theorem haulierref11_least.calls (a0 : Int) (a1 : Int) (r : Int) (w : World) (h : haulierref11_least.f a0 a1 = some r) :
    Calls Try.prog 25 #[.int .i64 a0, .int .i64 a1] w fun e w' => e = .returned (.int .i64 r) ∧ Drawn0 w w' := by
  have H : (if a0 < a1 then (some a0) else (some a1)) = some r := h
  clear h
  by_cases c3 : a0 < a1
  · rw [if_pos c3] at H
    have c3b0 : decide (a0 < a1) = true := decide_eq_true c3
    clear c3
    obtain rfl := Option.some.inj H
    go_enter Try.func25, Try.ntmps25
    go_wp2
    go_ret
    exact ⟨by first | rfl | (simp; done) | (simp [*]; done), by repeat (first | exact Drawn0.refl _ | apply Drawn0.step)⟩
  · rw [if_neg c3] at H
    have c3b0 : decide (a0 < a1) = false := decide_eq_false c3
    clear c3
    obtain rfl := Option.some.inj H
    go_enter Try.func25, Try.ntmps25
    go_wp2
    go_ret
    exact ⟨by first | rfl | (simp; done) | (simp [*]; done), by repeat (first | exact Drawn0.refl _ | apply Drawn0.step)⟩

end Go.Proofs.Ytkcdpnigcbcalaa.PA
