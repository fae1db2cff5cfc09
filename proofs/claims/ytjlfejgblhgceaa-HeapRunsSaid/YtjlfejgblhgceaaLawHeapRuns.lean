-- Printed for this claim by wip/tools/xprint.py over the kit's print; the contracts marked BY HAND are this session's own.
import Derived.Test.YtjlfejgblhgceaaRows
import Derived.Test.YtjlfejgblhgceaaDefHeapRuns
import Derived.Test.YtjlfejgblhgceaaPureHeapRuns
import Derived.WalkKit
import Derived.ProofKit
import Derived.OpenShut
import Derived.ShutString
import Derived.ChangeOld
import Derived.Below
import Derived.SizedLaws
import Derived.Carry
namespace Go.Proofs.Ytjlfejgblhgceaa.heapRuns
open Go.ChangeShapes Go.WideShapes Go.ChangeAt Go.RowKit Go.Joins Go.Proofs.Ytjlfejgblhgceaa.PB Go.Proofs.Ytjlfejgblhgceaa.Op Go.Proofs.YtjlfejgblhgceaaW.PrintWords Go.Proofs.YtjlfejgblhgceaaW.PrintLast
set_option linter.unusedVariables false
theorem own : ownKnob Try.prog.godebug = none := by kernel_rfl
theorem laidOut : laidOutB Try.prog = true := by kernel_rfl
set_option maxRecDepth 100000 in
theorem lifted (os : Os) (started : os.Started) (H : Type) (enc : TypeId × Value → H) :
    ReturnsInHanded {} Try.checked os 5 .any (Rows.heapRunsSpec.pre6 enc Try.prog Try.f5 Rows.heapRunsRow.domain false) (Rows.heapRunsSpec.post enc Try.prog Try.f5 false true false false) := by
  refine returnsInHanded_of_change_sized (C := Try.checked) own started (by kernel_rfl) Try.func5
    (ChangeSpec.witness6 (enc := enc) (C := Try.checked) false ⟨#[], #[.int .i64 0, .slice none 0 0, .agg #[(.int .i64 0), (.int .i64 0), (.int .i64 0)], .agg #[(.int .i64 0), (.int .i64 0), (.int .i64 0)]], []⟩ 8 (by kernel_rfl) (by kernel_rfl) (by kernel_rfl) (by kernel_rfl)) ?_
  intro W base args ds gs before hval0 hW hcnd hsz0 _
  have hval : ∀ (j : Nat) t v, Try.f5.params[j]? = some t → args[j]? = some v → Value.okWide Try.prog W .any base t v := hval0
  have hW' := hW
  obtain ⟨p, q, hA0, hV, rfl, hfz, hnd⟩ := hW
  have hA : DataW.TrodAll enc Try.prog W 0 (fun _ => true) true Try.f5.params.toList args.toList ds p := hA0
  rw [Try.params5] at hA hval
  obtain ⟨v0, vs0, d0, ds0, p0, q0, hargs, rfl, rfl, h0, r0⟩ := trodAll_cons hA
  obtain ⟨v1, vs1, d1, ds1, p1, q1, rfl, rfl, rfl, h1, r1⟩ := trodAll_cons r0
  obtain ⟨v2, vs2, d2, ds2, p2, q2, rfl, rfl, rfl, h2, r2⟩ := trodAll_cons r1
  obtain ⟨v3, vs3, d3, ds3, p3, q3, rfl, rfl, rfl, h3, r3⟩ := trodAll_cons r2
  obtain ⟨rfl, rfl, rfl⟩ := trodAll_nil r3
  obtain rfl : args = #[v0, v1, v2, v3] := by cases args; simp_all
  obtain ⟨rfl, rfl⟩ := trodVars_none hV
  have k0_ := h0
  have lt0 : ∀ x ∈ p0, x.block < W.heap.size := by obtain ⟨m, hm⟩ := k0_; exact DataW.trod_lt m _ _ _ hm
  obtain ⟨fuel0, hf0⟩ := h0
  obtain ⟨x0, K0, W0⟩ := op_t3 _ enc W 0 (fun _ => true) true fuel0 _ _ hf0
  clear hf0
  obtain ⟨a0, rfl⟩ := okWide_int Try.underlying3 (hval 0 3 v0 rfl rfl)
  obtain rfl : a0 = x0 := by simpa [Value.cells, Kd.int, Kd.bool, Kd.string, Kd.scalar] using K0
  have k1_ := h1
  have lt1 : ∀ x ∈ p1, x.block < W.heap.size := by obtain ⟨m, hm⟩ := k1_; exact DataW.trod_lt m _ _ _ hm
  obtain ⟨fuel1, hf1⟩ := h1
  obtain ⟨x1, K1, W1⟩ := op_t34 _ enc W 0 (fun _ => true) true fuel1 _ _ hf1
  clear hf1
  obtain ⟨a1, len1, cap1, rfl⟩ := okWide_slice Try.underlying34 (hval 1 34 v1 rfl rfl)
  obtain ⟨A1, c1, e1, l1, C1⟩ := K1
  simp [Value.cells] at e1
  obtain ⟨rfl, rfl, rfl⟩ := e1
  have k2_ := h2
  have lt2 : ∀ x ∈ p2, x.block < W.heap.size := by obtain ⟨m, hm⟩ := k2_; exact DataW.trod_lt m _ _ _ hm
  obtain ⟨fuel2, hf2⟩ := h2
  obtain ⟨x2, K2, W2⟩ := op_t23 _ enc W 0 (fun _ => true) true fuel2 _ _ hf2
  clear hf2
  obtain ⟨cs2, rfl, _⟩ := okWide_struct Try.underlying23 (hval 2 23 v2 rfl rfl)
  obtain e2 := k23_open K2
  obtain rfl : cs2 = #[.int .i64 x2.f0, .int .i64 x2.f1, .int .i64 x2.f2] := by cases cs2; simpa [Value.cells] using e2
  have k3_ := h3
  have lt3 : ∀ x ∈ p3, x.block < W.heap.size := by obtain ⟨m, hm⟩ := k3_; exact DataW.trod_lt m _ _ _ hm
  obtain ⟨fuel3, hf3⟩ := h3
  obtain ⟨x3, K3, W3⟩ := op_t23 _ enc W 0 (fun _ => true) true fuel3 _ _ hf3
  clear hf3
  obtain ⟨cs3, rfl, _⟩ := okWide_struct Try.underlying23 (hval 3 23 v3 rfl rfl)
  obtain e3 := k23_open K3
  obtain rfl : cs3 = #[.int .i64 x3.f0, .int .i64 x3.f1, .int .i64 x3.f2] := by cases cs3; simpa [Value.cells] using e3
  clear hA0 hval0 hsz0
  have hr := Pure.HeapRuns _ _ _ _ W0 W1 W2 W3
  refine (haulierlaw03_HeapRuns.calls a0 _ _ x1 x2.f0 x2.f1 x2.f2 x3.f0 x3.f1 x3.f2 true W C1 l1 hr).mono fun e W' ⟨he, bel0⟩ => ?_
  have bel : Below W.heap.size W W' := bel0
  subst he
  exact ⟨_, rfl, _, _, _, [], _, [], hW', trodAll_mk1 (shut_bool Try.underlying4 _), (trodAll_cons_mk (Below.trod laidOut (by kernel_rfl) (of_decide_eq_true (by kernel_rfl)) k0_ bel lt0) (trodAll_cons_mk (Below.trod laidOut (by kernel_rfl) (of_decide_eq_true (by kernel_rfl)) k1_ bel lt1) (trodAll_cons_mk (Below.trod laidOut (by kernel_rfl) (of_decide_eq_true (by kernel_rfl)) k2_ bel lt2) (trodAll_cons_mk (Below.trod laidOut (by kernel_rfl) (of_decide_eq_true (by kernel_rfl)) k3_ bel lt3) trodAll_mk0)))), rfl, bel.frame _, fun h => by cases h⟩
theorem over : Rows.heapRunsRow.holds Try.pinned (OpenSpec.ofChange Rows.heapRunsSpec) :=
  OpenClaim.holds_of_wide 5 Try.f5 rfl rfl rfl rfl rfl rfl rfl ⟨rfl, rfl, rfl, rfl, rfl⟩ rfl rfl rfl rfl rfl (by kernel_rfl) Try.func5 (by kernel_rfl)
    (of_decide_eq_true (by kernel_rfl)) (by unfold Func.isWrapper; first | (rw [if_pos (by decide +kernel)]; kernel_rfl) | (rw [if_neg (by decide +kernel)]; exact ⟨rfl, rfl⟩))
    (fun os started H enc _ => lifted os started H enc)
theorem proved : Rows.HeapRunsSaid := over
end Go.Proofs.Ytjlfejgblhgceaa.heapRuns
namespace Go.Proofs.Ytjlfejgblhgceaa
/-- The row, under a short name, for the claim. -/
theorem heapRuns_holds : Rows.HeapRunsSaid := heapRuns.proved
end Go.Proofs.Ytjlfejgblhgceaa
