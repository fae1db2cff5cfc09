-- Printed for this claim by wip/tools/xprint.py over the kit's print; the contracts marked BY HAND are this session's own.
import Derived.Test.YtjiammiihamkiaaPCx0
import Derived.Test.YtjiammiihamkiaaPCx3
import Derived.Test.YtjiammiihamkiaaPCx5
import Derived.Test.YtjiammiihamkiaaPCx6
import Derived.Test.YtjiammiihamkiaaPCx7
namespace Go.Proofs.Ytjiammiihamkiaa.PC
open Go.RowKit Go.Proofs.YtjiammiihamkiaaW.PrintWords Go.Proofs.YtjiammiihamkiaaW.PrintLast Go.Proofs.YtjiammiihamkiaaW.PrintMore
attribute [local go_sem] max2_int min2_int max_two min_two max_three min_three max_four min_four   -- for this text's walks alone
set_option linter.unusedVariables false
set_option linter.unusedSimpArgs false

/-! ### state_here_move: function 38 -/
/-- Which of the three it is: by its number. -/
def state_here_to.f (k : Nat) (n : Int) (a0_0 : Int) (a0_1 : Int) (a0_2 : Int) (l0_3 : List (S23)) (a0_4 : Int) (a0_5 : Int) (a0_6 : Int) (a0_7 : Int) (a0_8 : Int) (a0_9 : Int) (a0_10 : Int) (a0_11 : Int) (a1 : Int) : Option (Int × Int × Int × Int × Int × Int × Int × Int × Bool) := if n = 53 then state_here_home.f k a0_0 a0_1 a0_2 l0_3 a0_4 a0_5 a0_6 a0_7 a0_8 a0_9 a0_10 a0_11 a1 else if n = 54 then state_here_take.f k a0_0 a0_1 a0_2 l0_3 a0_4 a0_5 a0_6 a0_7 a0_8 a0_9 a0_10 a0_11 a1 else if n = 52 then state_here_bring.f k a0_0 a0_1 a0_2 l0_3 a0_4 a0_5 a0_6 a0_7 a0_8 a0_9 a0_10 a0_11 a1 else none
theorem state_here_to.mono : ∀ n a0 a1 a2 a3 a4 a5 a6 a7 a8 a9 a10 a11 a12 k, LeO (state_here_to.f k n a0 a1 a2 a3 a4 a5 a6 a7 a8 a9 a10 a11 a12) (state_here_to.f (k + 1) n a0 a1 a2 a3 a4 a5 a6 a7 a8 a9 a10 a11 a12) := by
  intro n a0 a1 a2 a3 a4 a5 a6 a7 a8 a9 a10 a11 a12 k
  unfold state_here_to.f
  refine LeO.ite (state_here_home.mono _ _ _ _ _ _ _ _ _ _ _ _ _ _) (LeO.ite (state_here_take.mono _ _ _ _ _ _ _ _ _ _ _ _ _ _) (LeO.ite (state_here_bring.mono _ _ _ _ _ _ _ _ _ _ _ _ _ _) (LeO.none _)))
theorem state_here_to.known {k : Nat} {n : Int} {a0_0 a0_1 a0_2 : Int} {l0_3 : List S23} {a0_4 a0_5 a0_6 a0_7 a0_8 a0_9 a0_10 a0_11 a1 : Int} {r : Int × Int × Int × Int × Int × Int × Int × Int × Bool} (h : state_here_to.f k n a0_0 a0_1 a0_2 l0_3 a0_4 a0_5 a0_6 a0_7 a0_8 a0_9 a0_10 a0_11 a1 = some r) :
    ∃ fn, Try.prog.funcs[n.toNat]? = some fn ∧ (fn.name == "runtime.NumGoroutine") = false ∧ fn.body.isSome = true := by
  unfold state_here_to.f at h
  by_cases h1 : n = 53
  · subst h1; exact ⟨_, (show Try.prog.funcs[(53 : Int).toNat]? = some Try.f53 from Try.func53), rfl, rfl⟩
  · rw [if_neg h1] at h
    by_cases h2 : n = 54
    · subst h2; exact ⟨_, (show Try.prog.funcs[(54 : Int).toNat]? = some Try.f54 from Try.func54), rfl, rfl⟩
    · rw [if_neg h2] at h
      by_cases h3 : n = 52
      · subst h3; exact ⟨_, (show Try.prog.funcs[(52 : Int).toNat]? = some Try.f52 from Try.func52), rfl, rfl⟩
      · rw [if_neg h3] at h; exact absurd h (by simp)
theorem state_here_to.calls (k : Nat) (n : Int) (a0_0 : Int) (a0_1 : Int) (a0_2 : Int) (A0_3 : Option Addr) (c0_3 : Nat) (l0_3 : List (S23)) (a0_4 : Int) (a0_5 : Int) (a0_6 : Int) (a0_7 : Int) (a0_8 : Int) (a0_9 : Int) (a0_10 : Int) (a0_11 : Int) (a1 : Int) (r1 r2 r3 r4 r5 r6 r7 r8 : Int) (r9 : Bool) (w : World) (hr0_3 : Kd.C k23 w A0_3 l0_3.length l0_3) (hc0_3 : l0_3.length ≤ c0_3) (h : state_here_to.f k n a0_0 a0_1 a0_2 l0_3 a0_4 a0_5 a0_6 a0_7 a0_8 a0_9 a0_10 a0_11 a1 = some (r1, r2, r3, r4, r5, r6, r7, r8, r9)) :
    Calls Try.prog n.toNat #[.agg #[.int .i64 a0_0, .int .i64 a0_1, .int .i64 a0_2, .slice A0_3 l0_3.length c0_3, .int .i64 a0_4, .int .i64 a0_5, .int .i64 a0_6, .int .i64 a0_7, .int .i64 a0_8, .int .u64 a0_9, .int .u64 a0_10, .int .u64 a0_11], .int .i64 a1] w fun e w' => e = .returned (.tuple #[.agg #[.int .i64 r1, .int .i64 r2, .int .i64 r3, .int .i64 r4, .int .i64 r5, .int .u64 r6, .int .u64 r7, .int .u64 r8], .bool r9]) ∧ Below w.heap.size w w' := by
  unfold state_here_to.f at h
  by_cases h1 : n = 53
  · subst h1; rw [if_pos rfl] at h; exact state_here_home.calls k a0_0 a0_1 a0_2 A0_3 c0_3 l0_3 a0_4 a0_5 a0_6 a0_7 a0_8 a0_9 a0_10 a0_11 a1 r1 r2 r3 r4 r5 r6 r7 r8 r9 w hr0_3 hc0_3 h
  · rw [if_neg h1] at h
    by_cases h2 : n = 54
    · subst h2; rw [if_pos rfl] at h; exact state_here_take.calls k a0_0 a0_1 a0_2 A0_3 c0_3 l0_3 a0_4 a0_5 a0_6 a0_7 a0_8 a0_9 a0_10 a0_11 a1 r1 r2 r3 r4 r5 r6 r7 r8 r9 w hr0_3 hc0_3 h
    · rw [if_neg h2] at h
      by_cases h3 : n = 52
      · subst h3; rw [if_pos rfl] at h; exact state_here_bring.calls k a0_0 a0_1 a0_2 A0_3 c0_3 l0_3 a0_4 a0_5 a0_6 a0_7 a0_8 a0_9 a0_10 a0_11 a1 r1 r2 r3 r4 r5 r6 r7 r8 r9 w hr0_3 hc0_3 h
      · rw [if_neg h3] at h; exact absurd h (by simp)
/-- A call of what a function value tells. -/
theorem gate_value {P : Program} {ops : Array Oper} {Q : Exit → Act → World → Prop} {rest : List Oper} {o : Oper} {a : Act} {W : World} {x : Operand} {az : Array Operand} {ts : Array TypeId} (_ho : o.op = .call { callee := .value x, args := az, argTypes := ts }) (_hx : ∃ t, x = .tmp t) (h : wpList P ops Q (o :: rest) a W) : wpList P ops Q (o :: rest) a W := h
theorem goesV_ {P : Program} {ops : Array Oper} {Q : Exit → Act → World → Prop} {rest : List Oper} {oi : Oper} {a : Act} {w : World} (N : Option Tmp) (hd : oi.dst = N) (hg : oi.guard = none) {f : FuncId} {az : Array Operand} {ts : Array TypeId} (hF : ∃ fn, P.funcs[f]? = some fn ∧ (fn.name == "runtime.NumGoroutine") = false ∧ fn.body.isSome = true) (args first : Array Value) (x : Operand)
    (hop : oi.op = .call { callee := .value x, args := az, argTypes := ts }) (hx : a.eval x = .func (.func f) first #[]) (hargs : first ++ az.map a.eval = args)
    (h : Calls P f args w fun e w' => ∃ v, e = .returned v ∧ wpList P ops Q rest (a.put N v) w') : wpList P ops Q (oi :: rest) a w := by
  obtain ⟨fn, hf, hname, hb⟩ := hF
  refine wpList_plain hg fun K hK => ?_
  have he := enters_ hf hname hb args w
  have hrun : (execOp a.eval oi).run P w = .ok (.enter f args) w := by
    unfold execOp
    simp [hop, resolve, Deferred.ofValue, invoke, hx, hargs, he]
  unfold Oper.wp
  rw [hrun, Oper.upon_enter]
  refine h.mono fun e w'' hh => ?_
  obtain ⟨v, rfl, hk⟩ := hh
  subst hd
  exact hK _ _ hk
mutual
def state_here_move.j0 : Nat → Int → Bool → Int → Int → Int → List (S23) → Int → Int → Int → Int → Int → Int → Int → Int → Option (Int × Int × Int × Int × Int × Int × Int × Int × Int × Bool)
  | 0, _, _, _, _, _, _, _, _, _, _, _, _, _, _ => none
  | k + 1, x1, x19, x199000, x199001, x199002, x199003, x199004, x199005, x199006, x199007, x199008, x199009, x199010, x199011 => if x19 = true then (some (x199004, x199005, x199006, x199007, x199008, x199009, x199010, x199011, 0, false)) else (if x1 = 0 then (state_here_move.j1 k x1 53 x199000 x199001 x199002 x199003 x199004 x199005 x199006 x199007 x199008 x199009 x199010 x199011) else (if x1 ≤ x199000 then (state_here_move.j1 k x1 54 x199000 x199001 x199002 x199003 x199004 x199005 x199006 x199007 x199008 x199009 x199010 x199011) else (state_here_move.j1 k x1 52 x199000 x199001 x199002 x199003 x199004 x199005 x199006 x199007 x199008 x199009 x199010 x199011)))
def state_here_move.j1 : Nat → Int → Int → Int → Int → Int → List (S23) → Int → Int → Int → Int → Int → Int → Int → Int → Option (Int × Int × Int × Int × Int × Int × Int × Int × Int × Bool)
  | 0, _, _, _, _, _, _, _, _, _, _, _, _, _, _ => none
  | k + 1, x1, x7, x199000, x199001, x199002, x199003, x199004, x199005, x199006, x199007, x199008, x199009, x199010, x199011 => (state_here_to.f k x7 x199000 x199001 x199002 x199003 x199004 x199005 x199006 x199007 x199008 x199009 x199010 x199011 x1).bind fun bt200 => (if bt200.2.2.2.2.2.2.2.2 = true then ((state_here_far.f x199000 x199001 x199002 x199003 x199004 x199005 x199006 x199007 x199008 x199009 x199010 x199011 x1).bind fun t210 => (some (bt200.1, bt200.2.1, bt200.2.2.1, bt200.2.2.2.1, bt200.2.2.2.2.1, bt200.2.2.2.2.2.1, bt200.2.2.2.2.2.2.1, bt200.2.2.2.2.2.2.2.1, t210, true))) else (some (x199004, x199005, x199006, x199007, x199008, x199009, x199010, x199011, 0, false)))
end
def state_here_move.f (k : Nat) (a0_0 : Int) (a0_1 : Int) (a0_2 : Int) (l0_3 : List (S23)) (a0_4 : Int) (a0_5 : Int) (a0_6 : Int) (a0_7 : Int) (a0_8 : Int) (a0_9 : Int) (a0_10 : Int) (a0_11 : Int) (a1 : Int) : Option (Int × Int × Int × Int × Int × Int × Int × Int × Int × Bool) := if a1 < 0 then (state_here_move.j0 k a1 true a0_0 a0_1 a0_2 l0_3 a0_4 a0_5 a0_6 a0_7 a0_8 a0_9 a0_10 a0_11) else (state_here_move.j0 k a1 (decide (a1 > (wrap64 (2 * a0_0)))) a0_0 a0_1 a0_2 l0_3 a0_4 a0_5 a0_6 a0_7 a0_8 a0_9 a0_10 a0_11)
theorem state_here_move.mono_l : ∀ k, (∀ y0 y1 y2 y3 y4 y5 y6 y7 y8 y9 y10 y11 y12 y13, LeO (state_here_move.j0 k y0 y1 y2 y3 y4 y5 y6 y7 y8 y9 y10 y11 y12 y13) (state_here_move.j0 (k + 1) y0 y1 y2 y3 y4 y5 y6 y7 y8 y9 y10 y11 y12 y13)) ∧ (∀ y0 y1 y2 y3 y4 y5 y6 y7 y8 y9 y10 y11 y12 y13, LeO (state_here_move.j1 k y0 y1 y2 y3 y4 y5 y6 y7 y8 y9 y10 y11 y12 y13) (state_here_move.j1 (k + 1) y0 y1 y2 y3 y4 y5 y6 y7 y8 y9 y10 y11 y12 y13))
  | 0 => ⟨fun _ _ _ _ _ _ _ _ _ _ _ _ _ _ r h => by simp [state_here_move.j0] at h, fun _ _ _ _ _ _ _ _ _ _ _ _ _ _ r h => by simp [state_here_move.j1] at h⟩
  | k + 1 => by
    obtain ⟨ih0, ih1⟩ := state_here_move.mono_l k
    refine ⟨?_, ?_⟩
    · intro y0 y1 y2 y3 y4 y5 y6 y7 y8 y9 y10 y11 y12 y13
      unfold state_here_move.j0
      repeat' first
      | (with_reducible exact ih0 _ _ _ _ _ _ _ _ _ _ _ _ _ _)
      | (with_reducible exact ih1 _ _ _ _ _ _ _ _ _ _ _ _ _ _)
      | (with_reducible exact state_here_to.mono _ _ _ _ _ _ _ _ _ _ _ _ _ _ _)
      | (with_reducible exact LeO.refl _)
      | (with_reducible exact LeO.none _)
      | (with_reducible refine LeO.ite ?_ ?_)
      | (with_reducible refine LeO.bind ?_ (fun _ => ?_))
      | exact ih0 _ _ _ _ _ _ _ _ _ _ _ _ _ _
      | exact ih1 _ _ _ _ _ _ _ _ _ _ _ _ _ _
      | exact state_here_to.mono _ _ _ _ _ _ _ _ _ _ _ _ _ _ _
      | exact LeO.none _
      | refine LeO.ite ?_ ?_
      | refine LeO.bind ?_ (fun _ => ?_)
    · intro y0 y1 y2 y3 y4 y5 y6 y7 y8 y9 y10 y11 y12 y13
      unfold state_here_move.j1
      repeat' first
      | (with_reducible exact ih0 _ _ _ _ _ _ _ _ _ _ _ _ _ _)
      | (with_reducible exact ih1 _ _ _ _ _ _ _ _ _ _ _ _ _ _)
      | (with_reducible exact state_here_to.mono _ _ _ _ _ _ _ _ _ _ _ _ _ _ _)
      | (with_reducible exact LeO.refl _)
      | (with_reducible exact LeO.none _)
      | (with_reducible refine LeO.ite ?_ ?_)
      | (with_reducible refine LeO.bind ?_ (fun _ => ?_))
      | exact ih0 _ _ _ _ _ _ _ _ _ _ _ _ _ _
      | exact ih1 _ _ _ _ _ _ _ _ _ _ _ _ _ _
      | exact state_here_to.mono _ _ _ _ _ _ _ _ _ _ _ _ _ _ _
      | exact LeO.none _
      | refine LeO.ite ?_ ?_
      | refine LeO.bind ?_ (fun _ => ?_)
theorem state_here_move.mono : ∀ a0 a1 a2 a3 a4 a5 a6 a7 a8 a9 a10 a11 a12 k, LeO (state_here_move.f k a0 a1 a2 a3 a4 a5 a6 a7 a8 a9 a10 a11 a12) (state_here_move.f (k + 1) a0 a1 a2 a3 a4 a5 a6 a7 a8 a9 a10 a11 a12) := by
  intro a0 a1 a2 a3 a4 a5 a6 a7 a8 a9 a10 a11 a12 k
  obtain ⟨ih0, ih1⟩ := state_here_move.mono_l k
  unfold state_here_move.f
  repeat' first
      | (with_reducible exact ih0 _ _ _ _ _ _ _ _ _ _ _ _ _ _)
      | (with_reducible exact ih1 _ _ _ _ _ _ _ _ _ _ _ _ _ _)
      | (with_reducible exact state_here_to.mono _ _ _ _ _ _ _ _ _ _ _ _ _ _ _)
      | (with_reducible exact LeO.refl _)
      | (with_reducible exact LeO.none _)
      | (with_reducible refine LeO.ite ?_ ?_)
      | (with_reducible refine LeO.bind ?_ (fun _ => ?_))
      | exact ih0 _ _ _ _ _ _ _ _ _ _ _ _ _ _
      | exact ih1 _ _ _ _ _ _ _ _ _ _ _ _ _ _
      | exact state_here_to.mono _ _ _ _ _ _ _ _ _ _ _ _ _ _ _
      | exact LeO.none _
      | refine LeO.ite ?_ ?_
      | refine LeO.bind ?_ (fun _ => ?_)
set_option maxHeartbeats 16000000 in
set_option maxRecDepth 100000 in
theorem state_here_move.calls (k : Nat) (a0_0 : Int) (a0_1 : Int) (a0_2 : Int) (A0_3 : Option Addr) (c0_3 : Nat) (l0_3 : List (S23)) (a0_4 : Int) (a0_5 : Int) (a0_6 : Int) (a0_7 : Int) (a0_8 : Int) (a0_9 : Int) (a0_10 : Int) (a0_11 : Int) (a1 : Int) (r1 : Int) (r2 : Int) (r3 : Int) (r4 : Int) (r5 : Int) (r6 : Int) (r7 : Int) (r8 : Int) (r9 : Int) (r10 : Bool) (w : World) (hr0_3 : Kd.C k23 w A0_3 l0_3.length l0_3) (hc0_3 : l0_3.length ≤ c0_3) (h : state_here_move.f k a0_0 a0_1 a0_2 l0_3 a0_4 a0_5 a0_6 a0_7 a0_8 a0_9 a0_10 a0_11 a1 = some (r1, r2, r3, r4, r5, r6, r7, r8, r9, r10)) :
  Calls Try.prog 38 #[.agg #[.int .i64 a0_0, .int .i64 a0_1, .int .i64 a0_2, .slice A0_3 l0_3.length c0_3, .int .i64 a0_4, .int .i64 a0_5, .int .i64 a0_6, .int .i64 a0_7, .int .i64 a0_8, .int .u64 a0_9, .int .u64 a0_10, .int .u64 a0_11], .int .i64 a1] w fun e w' => e = .returned (.tuple #[.agg #[.int .i64 r1, .int .i64 r2, .int .i64 r3, .int .i64 r4, .int .i64 r5, .int .u64 r6, .int .u64 r7, .int .u64 r8], .int .i64 r9, .bool r10]) ∧ Below w.heap.size w w' := by
 have hu69 := Try.underlying69
 have hu40 := Try.underlying40
 have HR0_3 := zqi hr0_3
 have HC0_3 := zqi hc0_3
 clear hr0_3 hc0_3
 have HB := zqi (Below.refl w.heap.size w)
 have H : (if a1 < 0 then (state_here_move.j0 k a1 true a0_0 a0_1 a0_2 l0_3 a0_4 a0_5 a0_6 a0_7 a0_8 a0_9 a0_10 a0_11) else (state_here_move.j0 k a1 (decide (a1 > (wrap64 (2 * a0_0)))) a0_0 a0_1 a0_2 l0_3 a0_4 a0_5 a0_6 a0_7 a0_8 a0_9 a0_10 a0_11)) = some (r1, r2, r3, r4, r5, r6, r7, r8, r9, r10) := h
 clear h
 have HC3 := zqi H
 clear H
 go_enter Try.func38, Try.ntmps38
 go_upto_region 1 with (first | ((with_reducible refine gate_dst (N := 2) rfl ?_); refine box_event ?hg (N := 2) ?hd (cs := #[.int .i64 a0_0, .int .i64 a0_1, .int .i64 a0_2, .slice A0_3 l0_3.length c0_3, .int .i64 a0_4, .int .i64 a0_5, .int .i64 a0_6, .int .i64 a0_7, .int .i64 a0_8, .int .u64 a0_9, .int .u64 a0_10, .int .u64 a0_11]) (t := 69) ?hr ?_; (case hd => rfl); (case hg => rfl); (case hr => first | (go_simp; done) | (go_simp; rfl)); intro gb198 hg w4 hbox hb; have n0_ := zqi (below_step (zqn HB.out) hb); have n1_ := zqi (hbox); have n2_ := zqi (zqo hg HB.out); have n3_ := zqi (zqo hg HB.out); clear HB; have HB := n0_; have BK198 := n1_; have GW198 := n2_; have GE198 := n3_; clear n0_ n1_ n2_ n3_; clear hb hbox hg) | ((with_reducible refine gate_dst (N := 4) rfl ?_); refine box_event ?hg (N := 4) ?hd (cs := #[.int .i64 0, .int .i64 0, .int .i64 0, .int .i64 0, .int .i64 0, .int .u64 0, .int .u64 0, .int .u64 0]) (t := 40) ?hr ?_; (case hd => rfl); (case hg => rfl); (case hr => first | (go_simp; done) | (go_simp; rfl)); intro gb199 hg w5 hbox hb; have n0_ := zqi (zqy BK198.out hb); have n1_ := zqi (below_step (zqn HB.out) hb); have n2_ := zqi (hbox); have n3_ := zqi (zqo hg HB.out); have n4_ := zqi (zqo hg HB.out); have n5_ := zqi ((zqq hg BK198.out)); have n6_ := zqi ((zqr hg BK198.out)); clear BK198; clear HB; have BK198 := n0_; have HB := n1_; have BK199 := n2_; have GW199 := n3_; have GE199 := n4_; have NB198_199 := n5_; have NB199_198 := n6_; clear n0_ n1_ n2_ n3_ n4_ n5_ n6_; clear hb hbox hg))
 (try simp only [Act.put, List.setIfInBounds_toArray, List.set_cons_zero, List.set_cons_succ])
 go_cut [19] (fun v19 wc => ∃ (kq : Nat) (x19_2 : Bool), v19 = .bool x19_2 ∧ Aside0 (state_here_move.j0 kq a1 x19_2 a0_0 a0_1 a0_2 l0_3 a0_4 a0_5 a0_6 a0_7 a0_8 a0_9 a0_10 a0_11 = some (r1, r2, r3, r4, r5, r6, r7, r8, r9, r10)) ∧ Aside0 (kq ≤ k) ∧ Aside0 (wc.heap[gb198]? = some (.cells #[.int .i64 a0_0, .int .i64 a0_1, .int .i64 a0_2, (.slice A0_3 l0_3.length c0_3), .int .i64 a0_4, .int .i64 a0_5, .int .i64 a0_6, .int .i64 a0_7, .int .i64 a0_8, .int .u64 a0_9, .int .u64 a0_10, .int .u64 a0_11] 69 (0, 0))) ∧ Aside0 (wc.heap[gb199]? = some (.cells #[.int .i64 0, .int .i64 0, .int .i64 0, .int .i64 0, .int .i64 0, .int .u64 0, .int .u64 0, .int .u64 0] 40 (0, 0))) ∧ Aside0 (Below w.heap.size w wc))
 case first =>
  have H := HC3.out
  clear HC3
  by_cases c6 : a1 < 0
  ·
   rw [if_pos c6] at H
   have c6b0 : decide (a1 < 0) = true := decide_eq_true c6
   clear c6
   (first | rw [c6b0] | (simp only [i64_w, i32_w]; rw [c6b0]) | skip)
   have H' := zqi H
   clear H
   go_wp2
   go_meet
   case rel => exact ⟨_, (true), (by first | rfl | (simp; done) | (simp [*]; done)), H', ⟨by first | omega | exact Nat.le_refl _⟩, ⟨by (with_reducible repeat (first | apply zqa | apply zqb | apply zqc)); exact BK198.out⟩, ⟨by (with_reducible repeat (first | apply zqa | apply zqb | apply zqc)); exact BK199.out⟩, ⟨by repeat (first | (with_reducible first | exact HB.out | apply zqg | apply zqf | apply zqh | refine below_set ?_ GE198.out | refine below_set ?_ GE199.out) | exact HB.out)⟩⟩
  ·
   rw [if_neg c6] at H
   have c6b0 : decide (a1 < 0) = false := decide_eq_false c6
   clear c6
   (first | rw [c6b0] | (simp only [i64_w, i32_w]; rw [c6b0]) | skip)
   have H' := zqi H
   clear H
   have hnb7 := NB198_199.out
   have hnc7 := NB199_198.out
   obtain ⟨hcz8_0, hcz8_1, hcz8_2, hcz8_3, hcz8_4, hcz8_5, hcz8_6, hcz8_7, hcz8_8, hcz8_9, hcz8_10, hcz8_11, hfz8_0, hfz8_1, hfz8_2, hfz8_3, hfz8_4, hfz8_5, hfz8_6, hfz8_7, hfz8_8, hfz8_9, hfz8_10, hfz8_11⟩ := zqz12 BK198.out
   go_wp2
   go_meet
   case rel => exact ⟨_, (decide (a1 > (wrap64 (2 * a0_0)))), (by first | rfl | (simp; done) | (simp [*]; done)), H', ⟨by first | omega | exact Nat.le_refl _⟩, ⟨by (with_reducible repeat (first | apply zqa | apply zqb | apply zqc)); exact BK198.out⟩, ⟨by (with_reducible repeat (first | apply zqa | apply zqb | apply zqc)); exact BK199.out⟩, ⟨by repeat (first | (with_reducible first | exact HB.out | apply zqg | apply zqf | apply zqh | refine below_set ?_ GE198.out | refine below_set ?_ GE199.out) | exact HB.out)⟩⟩
 case rest =>
  clear HC3
  try clear p2
  try clear c3
  try clear c6
  try clear c6b0
  try clear p6
  try clear c7
  try clear hcz8_0
  try clear hcz8_1
  try clear hcz8_10
  try clear hcz8_11
  try clear hcz8_2
  try clear hcz8_3
  try clear hcz8_4
  try clear hcz8_5
  try clear hcz8_6
  try clear hcz8_7
  try clear hcz8_8
  try clear hcz8_9
  try clear hfz8_0
  try clear hfz8_1
  try clear hfz8_10
  try clear hfz8_11
  try clear hfz8_2
  try clear hfz8_3
  try clear hfz8_4
  try clear hfz8_5
  try clear hfz8_6
  try clear hfz8_7
  try clear hfz8_8
  try clear hfz8_9
  obtain ⟨kq, x19_2, rfl, HA, HJ2, BK198, BK199, HB⟩ := hcut
  cases kq with
  | zero => exact absurd HA.out (by simp [state_here_move.j0])
  | succ kj2 =>
   have H := HA.out
   clear HA
   simp only [state_here_move.j0] at H
   by_cases c9 : x19_2 = true
   ·
    subst c9
    have H1 : (some (a0_4, a0_5, a0_6, a0_7, a0_8, a0_9, a0_10, a0_11, 0, false)) = some (r1, r2, r3, r4, r5, r6, r7, r8, r9, r10) := by rw [if_pos rfl] at H; exact H
    clear H
    have H := H1
    clear H1
    simp only [Option.some.injEq, Prod.mk.injEq] at H
    obtain ⟨rfl, rfl, rfl, rfl, rfl, rfl, rfl, rfl, rfl, rfl⟩ := H
    have hnb10 := NB198_199.out
    have hnc10 := NB199_198.out
    obtain ⟨hcz11_0, hcz11_1, hcz11_2, hcz11_3, hcz11_4, hcz11_5, hcz11_6, hcz11_7, hcz11_8, hcz11_9, hcz11_10, hcz11_11, hfz11_0, hfz11_1, hfz11_2, hfz11_3, hfz11_4, hfz11_5, hfz11_6, hfz11_7, hfz11_8, hfz11_9, hfz11_10, hfz11_11⟩ := zqz12 BK198.out
    obtain ⟨hcz12_0, hcz12_1, hcz12_2, hcz12_3, hcz12_4, hcz12_5, hcz12_6, hcz12_7, hfz12_0, hfz12_1, hfz12_2, hfz12_3, hfz12_4, hfz12_5, hfz12_6, hfz12_7⟩ := zqz8 BK199.out
    go_wp2
    refine bodyPost_ret (results_ctt rfl _ _ gb199 40 #[.int .i64 a0_4, .int .i64 a0_5, .int .i64 a0_6, .int .i64 a0_7, .int .i64 a0_8, .int .u64 a0_9, .int .u64 a0_10, .int .u64 a0_11] (0, 0) _ rfl (by exact zqC (blk_set (blk_set (blk_set (blk_set (blk_set (blk_set (blk_set (blk_set BK199.out 0 _) 1 _) 2 _) 3 _) 4 _) 5 _) 6 _) 7 _) (by simp only [List.setIfInBounds_toArray, List.set_cons_zero, List.set_cons_succ])) Try.underlying40 rfl (by kernel_rfl)) rfl ?_
    exact ⟨by first | rfl | (simp [errW_none, errW_some] <;> rfl) | (simp [*, errW_none, errW_some] <;> rfl), by repeat (first | (with_reducible first | exact HB.out | apply zqg | apply zqf | apply zqh | refine below_set ?_ GE198.out | refine below_set ?_ GE199.out) | exact HB.out)⟩
   ·
    replace c9 := Bool.eq_false_iff.mpr c9
    subst c9
    have H1 : (if a1 = 0 then (state_here_move.j1 kj2 a1 53 a0_0 a0_1 a0_2 l0_3 a0_4 a0_5 a0_6 a0_7 a0_8 a0_9 a0_10 a0_11) else (if a1 ≤ a0_0 then (state_here_move.j1 kj2 a1 54 a0_0 a0_1 a0_2 l0_3 a0_4 a0_5 a0_6 a0_7 a0_8 a0_9 a0_10 a0_11) else (state_here_move.j1 kj2 a1 52 a0_0 a0_1 a0_2 l0_3 a0_4 a0_5 a0_6 a0_7 a0_8 a0_9 a0_10 a0_11))) = some (r1, r2, r3, r4, r5, r6, r7, r8, r9, r10) := by rw [if_neg (show ¬ (false = true) by decide)] at H; exact H
    clear H
    have H := H1
    clear H1
    have HC13 := zqi H
    clear H
    have hnb14 := NB198_199.out
    have hnc14 := NB199_198.out
    obtain ⟨hcz15_0, hcz15_1, hcz15_2, hcz15_3, hcz15_4, hcz15_5, hcz15_6, hcz15_7, hcz15_8, hcz15_9, hcz15_10, hcz15_11, hfz15_0, hfz15_1, hfz15_2, hfz15_3, hfz15_4, hfz15_5, hfz15_6, hfz15_7, hfz15_8, hfz15_9, hfz15_10, hfz15_11⟩ := zqz12 BK198.out
    go_upto_block 0 with (fail)
    go_cut [7] (fun v7 wc => ∃ (kq : Nat) (x7_12 : Int), v7 = .func (.func x7_12.toNat) #[.agg #[.int .i64 a0_0, .int .i64 a0_1, .int .i64 a0_2, .slice A0_3 l0_3.length c0_3, .int .i64 a0_4, .int .i64 a0_5, .int .i64 a0_6, .int .i64 a0_7, .int .i64 a0_8, .int .u64 a0_9, .int .u64 a0_10, .int .u64 a0_11]] #[] ∧ Aside0 (state_here_move.j1 kq a1 x7_12 a0_0 a0_1 a0_2 l0_3 a0_4 a0_5 a0_6 a0_7 a0_8 a0_9 a0_10 a0_11 = some (r1, r2, r3, r4, r5, r6, r7, r8, r9, r10)) ∧ Aside0 (kq ≤ kj2) ∧ Aside0 (wc.heap[gb198]? = some (.cells #[.int .i64 a0_0, .int .i64 a0_1, .int .i64 a0_2, (.slice A0_3 l0_3.length c0_3), .int .i64 a0_4, .int .i64 a0_5, .int .i64 a0_6, .int .i64 a0_7, .int .i64 a0_8, .int .u64 a0_9, .int .u64 a0_10, .int .u64 a0_11] 69 (0, 0))) ∧ Aside0 (wc.heap[gb199]? = some (.cells #[.int .i64 0, .int .i64 0, .int .i64 0, .int .i64 0, .int .i64 0, .int .u64 0, .int .u64 0, .int .u64 0] 40 (0, 0))) ∧ Aside0 (Below w.heap.size w wc))
    case first =>
     have H := HC13.out
     clear HC13
     by_cases c16 : a1 = 0
     ·
      rw [if_pos c16] at H
      have c16b0 : (a1 == 0) = true := beq_iff_eq.mpr c16
      have c16b1 : (a1 != 0) = false := bne_eq_false_iff_eq.mpr c16
      clear c16
      (first | rw [c16b0] | (simp only [i64_w, i32_w]; rw [c16b0]) | skip)
      have H' := zqi H
      clear H
      have hnb17 := NB198_199.out
      have hnc17 := NB199_198.out
      obtain ⟨hcz18_0, hcz18_1, hcz18_2, hcz18_3, hcz18_4, hcz18_5, hcz18_6, hcz18_7, hcz18_8, hcz18_9, hcz18_10, hcz18_11, hfz18_0, hfz18_1, hfz18_2, hfz18_3, hfz18_4, hfz18_5, hfz18_6, hfz18_7, hfz18_8, hfz18_9, hfz18_10, hfz18_11⟩ := zqz12 BK198.out
      go_wp2
      go_meet
      case rel => exact ⟨_, (53), (by first | rfl | (simp; done) | (simp [*]; done)), H', ⟨by have := HJ2.out; first | omega | exact Nat.le_refl _⟩, ⟨by (with_reducible repeat (first | apply zqa | apply zqb | apply zqc)); exact BK198.out⟩, ⟨by (with_reducible repeat (first | apply zqa | apply zqb | apply zqc)); exact BK199.out⟩, ⟨by repeat (first | (with_reducible first | exact HB.out | apply zqg | apply zqf | apply zqh | refine below_set ?_ GE198.out | refine below_set ?_ GE199.out) | exact HB.out)⟩⟩
     ·
      rw [if_neg c16] at H
      have c16b0 : (a1 == 0) = false := beq_eq_false_iff_ne.mpr c16
      have c16b1 : (a1 != 0) = true := bne_iff_ne.mpr c16
      (first | rw [c16b0] | (simp only [i64_w, i32_w]; rw [c16b0]) | skip)
      by_cases c19 : a1 ≤ a0_0
      ·
       rw [if_pos c19] at H
       have c19b0 : decide (a1 ≤ a0_0) = true := decide_eq_true c19
       clear c19
       have H' := zqi H
       clear H
       have hnb20 := NB198_199.out
       have hnc20 := NB199_198.out
       obtain ⟨hcz21_0, hcz21_1, hcz21_2, hcz21_3, hcz21_4, hcz21_5, hcz21_6, hcz21_7, hcz21_8, hcz21_9, hcz21_10, hcz21_11, hfz21_0, hfz21_1, hfz21_2, hfz21_3, hfz21_4, hfz21_5, hfz21_6, hfz21_7, hfz21_8, hfz21_9, hfz21_10, hfz21_11⟩ := zqz12 BK198.out
       go_wp2
       go_meet
       case rel => exact ⟨_, (54), (by first | rfl | (simp; done) | (simp [*]; done)), H', ⟨by have := HJ2.out; first | omega | exact Nat.le_refl _⟩, ⟨by (with_reducible repeat (first | apply zqa | apply zqb | apply zqc)); exact BK198.out⟩, ⟨by (with_reducible repeat (first | apply zqa | apply zqb | apply zqc)); exact BK199.out⟩, ⟨by repeat (first | (with_reducible first | exact HB.out | apply zqg | apply zqf | apply zqh | refine below_set ?_ GE198.out | refine below_set ?_ GE199.out) | exact HB.out)⟩⟩
      ·
       rw [if_neg c19] at H
       have c19b0 : decide (a1 ≤ a0_0) = false := decide_eq_false c19
       clear c19
       have H' := zqi H
       clear H
       have hnb22 := NB198_199.out
       have hnc22 := NB199_198.out
       obtain ⟨hcz23_0, hcz23_1, hcz23_2, hcz23_3, hcz23_4, hcz23_5, hcz23_6, hcz23_7, hcz23_8, hcz23_9, hcz23_10, hcz23_11, hfz23_0, hfz23_1, hfz23_2, hfz23_3, hfz23_4, hfz23_5, hfz23_6, hfz23_7, hfz23_8, hfz23_9, hfz23_10, hfz23_11⟩ := zqz12 BK198.out
       go_wp2
       go_meet
       case rel => exact ⟨_, (52), (by first | rfl | (simp; done) | (simp [*]; done)), H', ⟨by have := HJ2.out; first | omega | exact Nat.le_refl _⟩, ⟨by (with_reducible repeat (first | apply zqa | apply zqb | apply zqc)); exact BK198.out⟩, ⟨by (with_reducible repeat (first | apply zqa | apply zqb | apply zqc)); exact BK199.out⟩, ⟨by repeat (first | (with_reducible first | exact HB.out | apply zqg | apply zqf | apply zqh | refine below_set ?_ GE198.out | refine below_set ?_ GE199.out) | exact HB.out)⟩⟩
    case rest =>
     clear HC13
     try clear c1
     try clear c2
     try clear p2
     try clear c3
     try clear c6
     try clear c6b0
     try clear p6
     try clear c7
     try clear c9
     try clear c10
     try clear c14
     try clear c16
     try clear c16b0
     try clear c16b1
     try clear c17
     try clear c19
     try clear c19b0
     try clear c20
     try clear c22
     try clear hcz11_0
     try clear hcz11_1
     try clear hcz11_10
     try clear hcz11_11
     try clear hcz11_2
     try clear hcz11_3
     try clear hcz11_4
     try clear hcz11_5
     try clear hcz11_6
     try clear hcz11_7
     try clear hcz11_8
     try clear hcz11_9
     try clear hcz12_0
     try clear hcz12_1
     try clear hcz12_2
     try clear hcz12_3
     try clear hcz12_4
     try clear hcz12_5
     try clear hcz12_6
     try clear hcz12_7
     try clear hcz15_0
     try clear hcz15_1
     try clear hcz15_10
     try clear hcz15_11
     try clear hcz15_2
     try clear hcz15_3
     try clear hcz15_4
     try clear hcz15_5
     try clear hcz15_6
     try clear hcz15_7
     try clear hcz15_8
     try clear hcz15_9
     try clear hcz18_0
     try clear hcz18_1
     try clear hcz18_10
     try clear hcz18_11
     try clear hcz18_2
     try clear hcz18_3
     try clear hcz18_4
     try clear hcz18_5
     try clear hcz18_6
     try clear hcz18_7
     try clear hcz18_8
     try clear hcz18_9
     try clear hcz21_0
     try clear hcz21_1
     try clear hcz21_10
     try clear hcz21_11
     try clear hcz21_2
     try clear hcz21_3
     try clear hcz21_4
     try clear hcz21_5
     try clear hcz21_6
     try clear hcz21_7
     try clear hcz21_8
     try clear hcz21_9
     try clear hcz23_0
     try clear hcz23_1
     try clear hcz23_10
     try clear hcz23_11
     try clear hcz23_2
     try clear hcz23_3
     try clear hcz23_4
     try clear hcz23_5
     try clear hcz23_6
     try clear hcz23_7
     try clear hcz23_8
     try clear hcz23_9
     try clear hcz8_0
     try clear hcz8_1
     try clear hcz8_10
     try clear hcz8_11
     try clear hcz8_2
     try clear hcz8_3
     try clear hcz8_4
     try clear hcz8_5
     try clear hcz8_6
     try clear hcz8_7
     try clear hcz8_8
     try clear hcz8_9
     try clear hfz11_0
     try clear hfz11_1
     try clear hfz11_10
     try clear hfz11_11
     try clear hfz11_2
     try clear hfz11_3
     try clear hfz11_4
     try clear hfz11_5
     try clear hfz11_6
     try clear hfz11_7
     try clear hfz11_8
     try clear hfz11_9
     try clear hfz12_0
     try clear hfz12_1
     try clear hfz12_2
     try clear hfz12_3
     try clear hfz12_4
     try clear hfz12_5
     try clear hfz12_6
     try clear hfz12_7
     try clear hfz15_0
     try clear hfz15_1
     try clear hfz15_10
     try clear hfz15_11
     try clear hfz15_2
     try clear hfz15_3
     try clear hfz15_4
     try clear hfz15_5
     try clear hfz15_6
     try clear hfz15_7
     try clear hfz15_8
     try clear hfz15_9
     try clear hfz18_0
     try clear hfz18_1
     try clear hfz18_10
     try clear hfz18_11
     try clear hfz18_2
     try clear hfz18_3
     try clear hfz18_4
     try clear hfz18_5
     try clear hfz18_6
     try clear hfz18_7
     try clear hfz18_8
     try clear hfz18_9
     try clear hfz21_0
     try clear hfz21_1
     try clear hfz21_10
     try clear hfz21_11
     try clear hfz21_2
     try clear hfz21_3
     try clear hfz21_4
     try clear hfz21_5
     try clear hfz21_6
     try clear hfz21_7
     try clear hfz21_8
     try clear hfz21_9
     try clear hfz23_0
     try clear hfz23_1
     try clear hfz23_10
     try clear hfz23_11
     try clear hfz23_2
     try clear hfz23_3
     try clear hfz23_4
     try clear hfz23_5
     try clear hfz23_6
     try clear hfz23_7
     try clear hfz23_8
     try clear hfz23_9
     try clear hfz8_0
     try clear hfz8_1
     try clear hfz8_10
     try clear hfz8_11
     try clear hfz8_2
     try clear hfz8_3
     try clear hfz8_4
     try clear hfz8_5
     try clear hfz8_6
     try clear hfz8_7
     try clear hfz8_8
     try clear hfz8_9
     try clear p2
     try clear p6
     obtain ⟨kq, x7_12, rfl, HA, HJ12, BK198, BK199, HB⟩ := hcut
     cases kq with
     | zero => exact absurd HA.out (by simp [state_here_move.j1])
     | succ kj12 =>
      have H := HA.out
      clear HA
      simp only [state_here_move.j1] at H
      replace H := Option.bind_eq_some_iff.mp H
      obtain ⟨⟨t200, t201, t202, t203, t204, t205, t206, t207, t208⟩, A240, H⟩ := H
      replace H : (if t208 = true then ((state_here_far.f a0_0 a0_1 a0_2 l0_3 a0_4 a0_5 a0_6 a0_7 a0_8 a0_9 a0_10 a0_11 a1).bind fun t210 => (some (t200, t201, t202, t203, t204, t205, t206, t207, t210, true))) else (some (a0_4, a0_5, a0_6, a0_7, a0_8, a0_9, a0_10, a0_11, 0, false))) = some (r1, r2, r3, r4, r5, r6, r7, r8, r9, r10) := H
      have A24 := zqi A240
      clear A240
      by_cases c25 : t208 = true
      ·
       subst c25
       have H1 : ((state_here_far.f a0_0 a0_1 a0_2 l0_3 a0_4 a0_5 a0_6 a0_7 a0_8 a0_9 a0_10 a0_11 a1).bind fun t210 => (some (t200, t201, t202, t203, t204, t205, t206, t207, t210, true))) = some (r1, r2, r3, r4, r5, r6, r7, r8, r9, r10) := by rw [if_pos rfl] at H; exact H
       clear H
       have H := H1
       clear H1
       replace H := Option.bind_eq_some_iff.mp H
       obtain ⟨t210, A260, H⟩ := H
       replace H : (some (t200, t201, t202, t203, t204, t205, t206, t207, t210, true)) = some (r1, r2, r3, r4, r5, r6, r7, r8, r9, r10) := H
       have A26 := zqi A260
       clear A260
       simp only [Option.some.injEq, Prod.mk.injEq] at H
       obtain ⟨rfl, rfl, rfl, rfl, rfl, rfl, rfl, rfl, rfl, rfl⟩ := H
       have hnb27 := NB198_199.out
       have hnc27 := NB199_198.out
       obtain ⟨hcz28_0, hcz28_1, hcz28_2, hcz28_3, hcz28_4, hcz28_5, hcz28_6, hcz28_7, hcz28_8, hcz28_9, hcz28_10, hcz28_11, hfz28_0, hfz28_1, hfz28_2, hfz28_3, hfz28_4, hfz28_5, hfz28_6, hfz28_7, hfz28_8, hfz28_9, hfz28_10, hfz28_11⟩ := zqz12 BK198.out
       try go_wp2_with (first | ((with_reducible refine gate_value (x := .tmp 38) rfl ⟨_, rfl⟩ ?_); refine goesV_ (some 40) rfl rfl (state_here_to.known A24.out) #[.agg #[.int .i64 a0_0, .int .i64 a0_1, .int .i64 a0_2, .slice A0_3 l0_3.length c0_3, .int .i64 a0_4, .int .i64 a0_5, .int .i64 a0_6, .int .i64 a0_7, .int .i64 a0_8, .int .u64 a0_9, .int .u64 a0_10, .int .u64 a0_11], .int .i64 a1] #[.agg #[.int .i64 a0_0, .int .i64 a0_1, .int .i64 a0_2, .slice A0_3 l0_3.length c0_3, .int .i64 a0_4, .int .i64 a0_5, .int .i64 a0_6, .int .i64 a0_7, .int .i64 a0_8, .int .u64 a0_9, .int .u64 a0_10, .int .u64 a0_11]] (.tmp 38) rfl rfl (by first | rfl | (simp; done) | (simp; rfl)) ?_; (with_reducible refine (state_here_to.calls kj12 x7_12 a0_0 a0_1 a0_2 _ _ l0_3 a0_4 a0_5 a0_6 a0_7 a0_8 a0_9 a0_10 a0_11 a1 t200 t201 t202 t203 t204 t205 t206 t207 true _ ?side1 ?side2 A24.out).mono ?_); (case side1 => repeat (first | exact (Kd.C_below HR0_3.out HB.out) | (with_reducible refine Kd.C_alloc ?_ _) | (with_reducible refine Kd.C_drewN ?_ _) | (with_reducible refine Kd.C_drew ?_))); (case side2 => exact HC0_3.out); rintro e w29 ⟨rfl, hb⟩; refine ⟨_, rfl, ?_⟩; have n0_ := zqi (zqy BK198.out hb); have n1_ := zqi (zqy BK199.out hb); have n2_ := zqi (below_step (zqn HB.out) hb); clear BK198; clear BK199; clear HB; have BK198 := n0_; have BK199 := n1_; have HB := n2_; clear n0_ n1_ n2_; (try clear hb); (try clear hb2); (try clear hk); (try clear hi)) | ((with_reducible refine gate_dst (N := 8) rfl ?_); refine box_event ?hg (N := 8) ?hd (cs := #[.int .i64 0, .int .i64 0, .int .i64 0, .int .i64 0, .int .i64 0, .int .u64 0, .int .u64 0, .int .u64 0]) (t := 40) ?hr ?_; (case hd => rfl); (case hg => rfl); (case hr => first | (go_simp; done) | (go_simp; rfl)); intro gb209 hg w30 hbox hb; have n0_ := zqi (zqy BK198.out hb); have n1_ := zqi (zqy BK199.out hb); have n2_ := zqi (below_step (zqn HB.out) hb); have n3_ := zqi (hbox); have n4_ := zqi (zqo hg HB.out); have n5_ := zqi (zqo hg HB.out); have n6_ := zqi ((zqq hg BK198.out)); have n7_ := zqi ((zqr hg BK198.out)); have n8_ := zqi ((zqq hg BK199.out)); have n9_ := zqi ((zqr hg BK199.out)); clear BK198; clear BK199; clear HB; have BK198 := n0_; have BK199 := n1_; have HB := n2_; have BK209 := n3_; have GW209 := n4_; have GE209 := n5_; have NB198_209 := n6_; have NB209_198 := n7_; have NB199_209 := n8_; have NB209_199 := n9_; clear n0_ n1_ n2_ n3_ n4_ n5_ n6_ n7_ n8_ n9_; clear hb hbox hg; have hnb31 := NB209_198.out; have hnc31 := NB198_209.out; have hnb32 := NB209_199.out; have hnc32 := NB199_209.out; obtain ⟨hcz33_0, hcz33_1, hcz33_2, hcz33_3, hcz33_4, hcz33_5, hcz33_6, hcz33_7, hfz33_0, hfz33_1, hfz33_2, hfz33_3, hfz33_4, hfz33_5, hfz33_6, hfz33_7⟩ := zqz8 BK209.out))
       generalize hW_ : ((((((((w30.setCell ⟨gb209, 0, none⟩ (.int .i64 t200)).setCell ⟨gb209, 1, none⟩ (.int .i64 t201)).setCell ⟨gb209, 2, none⟩ (.int .i64 t202)).setCell ⟨gb209, 3, none⟩ (.int .i64 t203)).setCell ⟨gb209, 4, none⟩ (.int .i64 t204)).setCell ⟨gb209, 5, none⟩ (.int .u64 t205)).setCell ⟨gb209, 6, none⟩ (.int .u64 t206)).setCell ⟨gb209, 7, none⟩ (.int .u64 t207)) = w34
       have n0_ : Aside0 (w34.heap[gb198]? = some (.cells #[.int .i64 a0_0, .int .i64 a0_1, .int .i64 a0_2, .slice A0_3 l0_3.length c0_3, .int .i64 a0_4, .int .i64 a0_5, .int .i64 a0_6, .int .i64 a0_7, .int .i64 a0_8, .int .u64 a0_9, .int .u64 a0_10, .int .u64 a0_11] 69 (0, 0))) := ⟨by subst hW_; (repeat (with_reducible first | apply zqa | apply zqb | apply zqc | refine blk_far ?_ NB198_209.out _)); exact BK198.out⟩
       have n1_ : Aside0 (w34.heap[gb199]? = some (.cells #[.int .i64 0, .int .i64 0, .int .i64 0, .int .i64 0, .int .i64 0, .int .u64 0, .int .u64 0, .int .u64 0] 40 (0, 0))) := ⟨by subst hW_; (repeat (with_reducible first | apply zqa | apply zqb | apply zqc | refine blk_far ?_ NB199_209.out _)); exact BK199.out⟩
       have n2_ : Aside0 (w34.heap[gb209]? = some (.cells #[.int .i64 t200, .int .i64 t201, .int .i64 t202, .int .i64 t203, .int .i64 t204, .int .u64 t205, .int .u64 t206, .int .u64 t207] 40 (0, 0))) := ⟨by subst hW_; exact zqC (blk_set (blk_set (blk_set (blk_set (blk_set (blk_set (blk_set (blk_set BK209.out 0 _) 1 _) 2 _) 3 _) 4 _) 5 _) 6 _) 7 _) (by simp only [List.setIfInBounds_toArray, List.set_cons_zero, List.set_cons_succ])⟩
       have n3_ : Aside0 (Below w.heap.size w w34) := ⟨by subst hW_; repeat (first | (with_reducible first | exact HB.out | apply zqg | apply zqf | apply zqh | refine below_set ?_ GE198.out | refine below_set ?_ GE199.out | refine below_set ?_ GE209.out) | exact HB.out)⟩
       clear hW_
       (try clear BK198)
       (try clear BK199)
       (try clear BK209)
       (try clear HB)
       have BK198 := n0_
       have BK199 := n1_
       have BK209 := n2_
       have HB := n3_
       clear n0_ n1_ n2_ n3_
       have n0_ := zqi (zqb BK198.out)
       have n1_ := zqi (zqb BK199.out)
       have n2_ := zqi (zqb BK209.out)
       have n3_ := zqi (zqh HB.out)
       clear BK198
       clear BK199
       clear BK209
       clear HB
       have BK198 := n0_
       have BK199 := n1_
       have BK209 := n2_
       have HB := n3_
       clear n0_ n1_ n2_ n3_
       refine start_ (n := 7) (S := fun w' => w'.cell? ⟨gb209, 0, none⟩ = some (.int .i64 t200) ∧ w'.cell? ⟨gb209, 1, none⟩ = some (.int .i64 t201) ∧ w'.cell? ⟨gb209, 2, none⟩ = some (.int .i64 t202) ∧ w'.cell? ⟨gb209, 3, none⟩ = some (.int .i64 t203) ∧ w'.cell? ⟨gb209, 4, none⟩ = some (.int .i64 t204) ∧ w'.cell? ⟨gb209, 5, none⟩ = some (.int .u64 t205) ∧ w'.cell? ⟨gb209, 6, none⟩ = some (.int .u64 t206) ∧ w'.cell? ⟨gb209, 7, none⟩ = some (.int .u64 t207) ∧ w'.cell? ⟨gb198, 0, none⟩ = some (.int .i64 a0_0) ∧ w'.cell? ⟨gb198, 1, none⟩ = some (.int .i64 a0_1) ∧ w'.cell? ⟨gb198, 2, none⟩ = some (.int .i64 a0_2) ∧ w'.cell? ⟨gb198, 3, none⟩ = some (.slice A0_3 l0_3.length c0_3) ∧ w'.cell? ⟨gb198, 4, none⟩ = some (.int .i64 a0_4) ∧ w'.cell? ⟨gb198, 5, none⟩ = some (.int .i64 a0_5) ∧ w'.cell? ⟨gb198, 6, none⟩ = some (.int .i64 a0_6) ∧ w'.cell? ⟨gb198, 7, none⟩ = some (.int .i64 a0_7) ∧ w'.cell? ⟨gb198, 8, none⟩ = some (.int .i64 a0_8) ∧ w'.cell? ⟨gb198, 9, none⟩ = some (.int .u64 a0_9) ∧ w'.cell? ⟨gb198, 10, none⟩ = some (.int .u64 a0_10) ∧ w'.cell? ⟨gb198, 11, none⟩ = some (.int .u64 a0_11)) (ds := []) (zqB 7 0) (by kernel_rfl) rfl rfl ⟨(zqe BK209.out 0).trans rfl, (zqe BK209.out 1).trans rfl, (zqe BK209.out 2).trans rfl, (zqe BK209.out 3).trans rfl, (zqe BK209.out 4).trans rfl, (zqe BK209.out 5).trans rfl, (zqe BK209.out 6).trans rfl, (zqe BK209.out 7).trans rfl, (zqe BK198.out 0).trans rfl, (zqe BK198.out 1).trans rfl, (zqe BK198.out 2).trans rfl, (zqe BK198.out 3).trans rfl, (zqe BK198.out 4).trans rfl, (zqe BK198.out 5).trans rfl, (zqe BK198.out 6).trans rfl, (zqe BK198.out 7).trans rfl, (zqe BK198.out 8).trans rfl, (zqe BK198.out 9).trans rfl, (zqe BK198.out 10).trans rfl, (zqe BK198.out 11).trans rfl⟩ (fun hHeld => ?_)
       generalize w34.drew = w35 at BK198 BK199 BK209 HB hHeld ⊢
       refine zqp 2 (some 49) (zqB 7 4) (by kernel_rfl) (h := ?_)
       refine zqt 0 (some 47) (zqB 7 5) (by kernel_rfl) hHeld (h := ?_)
       refine zqt 1 (some 48) (zqB 7 7) (by kernel_rfl) hHeld (h := ?_)
       refine one_ (i := 3) (N := some 50) (zqB 7 15) rfl rfl (by kernel_rfl) (by decide) (fun K hK => ?_)
       refine goes_ Try.func41 (by kernel_rfl) rfl #[.agg #[.int .i64 a0_0, .int .i64 a0_1, .int .i64 a0_2, .slice A0_3 l0_3.length c0_3, .int .i64 a0_4, .int .i64 a0_5, .int .i64 a0_6, .int .i64 a0_7, .int .i64 a0_8, .int .u64 a0_9, .int .u64 a0_10, .int .u64 a0_11], .int .i64 a1] (by rfl) rfl rfl (by (try simp only [List.map_toArray, List.map_cons, List.map_nil]); first | done | rfl | (simp only [List.length_drop, List.length_take]; rfl)) ?_
       with_reducible refine (state_here_far.calls a0_0 a0_1 a0_2 _ _ l0_3 a0_4 a0_5 a0_6 a0_7 a0_8 a0_9 a0_10 a0_11 a1 t210 _ ?side1 ?side2 A26.out).mono ?_
       (case side1 => repeat (first | exact (Kd.C_below HR0_3.out HB.out) | (with_reducible refine Kd.C_alloc ?_ _) | (with_reducible refine Kd.C_drewN ?_ _) | (with_reducible refine Kd.C_drew ?_)))
       (case side2 => exact HC0_3.out)
       rintro e w36 ⟨rfl, hb⟩
       refine ⟨_, rfl, ?_⟩
       have n0_ := zqi (zqy BK198.out hb)
       have n1_ := zqi (zqy BK199.out hb)
       have n2_ := zqi (zqy BK209.out hb)
       have n3_ := zqi (below_step (zqn HB.out) hb)
       clear BK198
       clear BK199
       clear BK209
       clear HB
       have BK198 := n0_
       have BK199 := n1_
       have BK209 := n2_
       have HB := n3_
       clear n0_ n1_ n2_ n3_
       (try clear hb)
       (try clear hb2)
       (try clear hk)
       (try clear hi)
       refine hK.out _ _ ⟨(zqe BK209.out 0).trans rfl, (zqe BK209.out 1).trans rfl, (zqe BK209.out 2).trans rfl, (zqe BK209.out 3).trans rfl, (zqe BK209.out 4).trans rfl, (zqe BK209.out 5).trans rfl, (zqe BK209.out 6).trans rfl, (zqe BK209.out 7).trans rfl, (zqe BK198.out 0).trans rfl, (zqe BK198.out 1).trans rfl, (zqe BK198.out 2).trans rfl, (zqe BK198.out 3).trans rfl, (zqe BK198.out 4).trans rfl, (zqe BK198.out 5).trans rfl, (zqe BK198.out 6).trans rfl, (zqe BK198.out 7).trans rfl, (zqe BK198.out 8).trans rfl, (zqe BK198.out 9).trans rfl, (zqe BK198.out 10).trans rfl, (zqe BK198.out 11).trans rfl⟩ (fun hHeld => ?_)
       clear hK K
       refine norm_ (a' := ?_) ?_ ?_
       rotate_left
       ·
        show Act.put _ (some 50) _ = _
        simp only [Act.put, List.setIfInBounds_toArray, List.set_cons_zero, List.set_cons_succ, i64_w, i32_w]
        rfl
       refine one_ (i := 4) (N := none) (zqB 7 31) rfl rfl (by kernel_rfl) (by decide) (fun K hK => ?_)
       have hs37 : w36.cell? ⟨gb199, 0, none⟩ = some (.int .i64 0) := (zqe BK199.out 0).trans rfl
       have hfs37 := zqd BK199.out 0
       have hns37_0 := NB198_199.out
       have hns37_2 := NB209_199.out
       have hms37_0 := NB199_198.out
       have hms37_2 := NB199_209.out
       have hs38 : w36.cell? ⟨gb199, 1, none⟩ = some (.int .i64 0) := (zqe BK199.out 1).trans rfl
       have hfs38 := zqd BK199.out 1
       have hns38_0 := NB198_199.out
       have hns38_2 := NB209_199.out
       have hms38_0 := NB199_198.out
       have hms38_2 := NB199_209.out
       have hs39 : w36.cell? ⟨gb199, 2, none⟩ = some (.int .i64 0) := (zqe BK199.out 2).trans rfl
       have hfs39 := zqd BK199.out 2
       have hns39_0 := NB198_199.out
       have hns39_2 := NB209_199.out
       have hms39_0 := NB199_198.out
       have hms39_2 := NB199_209.out
       have hs40 : w36.cell? ⟨gb199, 3, none⟩ = some (.int .i64 0) := (zqe BK199.out 3).trans rfl
       have hfs40 := zqd BK199.out 3
       have hns40_0 := NB198_199.out
       have hns40_2 := NB209_199.out
       have hms40_0 := NB199_198.out
       have hms40_2 := NB199_209.out
       have hs41 : w36.cell? ⟨gb199, 4, none⟩ = some (.int .i64 0) := (zqe BK199.out 4).trans rfl
       have hfs41 := zqd BK199.out 4
       have hns41_0 := NB198_199.out
       have hns41_2 := NB209_199.out
       have hms41_0 := NB199_198.out
       have hms41_2 := NB199_209.out
       have hs42 : w36.cell? ⟨gb199, 5, none⟩ = some (.int .u64 0) := (zqe BK199.out 5).trans rfl
       have hfs42 := zqd BK199.out 5
       have hns42_0 := NB198_199.out
       have hns42_2 := NB209_199.out
       have hms42_0 := NB199_198.out
       have hms42_2 := NB199_209.out
       have hs43 : w36.cell? ⟨gb199, 6, none⟩ = some (.int .u64 0) := (zqe BK199.out 6).trans rfl
       have hfs43 := zqd BK199.out 6
       have hns43_0 := NB198_199.out
       have hns43_2 := NB209_199.out
       have hms43_0 := NB199_198.out
       have hms43_2 := NB199_209.out
       have hs44 : w36.cell? ⟨gb199, 7, none⟩ = some (.int .u64 0) := (zqe BK199.out 7).trans rfl
       have hfs44 := zqd BK199.out 7
       have hns44_0 := NB198_199.out
       have hns44_2 := NB209_199.out
       have hms44_0 := NB199_198.out
       have hms44_2 := NB199_209.out
       refine skip_ (w1 := ?_) (by rfl) rfl ?_ ?_
       rotate_left
       ·
        go_simp
        rfl
       refine hK.out _ _ ⟨((zqk NB209_199.out).trans (((zqk NB209_199.out).trans (((zqk NB209_199.out).trans (((zqk NB209_199.out).trans (((zqk NB209_199.out).trans (((zqk NB209_199.out).trans (((zqk NB209_199.out).trans (((zqk NB209_199.out).trans (hHeld.1)))))))))))))))), ((zqk NB209_199.out).trans (((zqk NB209_199.out).trans (((zqk NB209_199.out).trans (((zqk NB209_199.out).trans (((zqk NB209_199.out).trans (((zqk NB209_199.out).trans (((zqk NB209_199.out).trans (((zqk NB209_199.out).trans (hHeld.2.1)))))))))))))))), ((zqk NB209_199.out).trans (((zqk NB209_199.out).trans (((zqk NB209_199.out).trans (((zqk NB209_199.out).trans (((zqk NB209_199.out).trans (((zqk NB209_199.out).trans (((zqk NB209_199.out).trans (((zqk NB209_199.out).trans (hHeld.2.2.1)))))))))))))))), ((zqk NB209_199.out).trans (((zqk NB209_199.out).trans (((zqk NB209_199.out).trans (((zqk NB209_199.out).trans (((zqk NB209_199.out).trans (((zqk NB209_199.out).trans (((zqk NB209_199.out).trans (((zqk NB209_199.out).trans (hHeld.2.2.2.1)))))))))))))))), ((zqk NB209_199.out).trans (((zqk NB209_199.out).trans (((zqk NB209_199.out).trans (((zqk NB209_199.out).trans (((zqk NB209_199.out).trans (((zqk NB209_199.out).trans (((zqk NB209_199.out).trans (((zqk NB209_199.out).trans (hHeld.2.2.2.2.1)))))))))))))))), ((zqk NB209_199.out).trans (((zqk NB209_199.out).trans (((zqk NB209_199.out).trans (((zqk NB209_199.out).trans (((zqk NB209_199.out).trans (((zqk NB209_199.out).trans (((zqk NB209_199.out).trans (((zqk NB209_199.out).trans (hHeld.2.2.2.2.2.1)))))))))))))))), ((zqk NB209_199.out).trans (((zqk NB209_199.out).trans (((zqk NB209_199.out).trans (((zqk NB209_199.out).trans (((zqk NB209_199.out).trans (((zqk NB209_199.out).trans (((zqk NB209_199.out).trans (((zqk NB209_199.out).trans (hHeld.2.2.2.2.2.2.1)))))))))))))))), ((zqk NB209_199.out).trans (((zqk NB209_199.out).trans (((zqk NB209_199.out).trans (((zqk NB209_199.out).trans (((zqk NB209_199.out).trans (((zqk NB209_199.out).trans (((zqk NB209_199.out).trans (((zqk NB209_199.out).trans (hHeld.2.2.2.2.2.2.2.1)))))))))))))))), ((zqk NB198_199.out).trans (((zqk NB198_199.out).trans (((zqk NB198_199.out).trans (((zqk NB198_199.out).trans (((zqk NB198_199.out).trans (((zqk NB198_199.out).trans (((zqk NB198_199.out).trans (((zqk NB198_199.out).trans (hHeld.2.2.2.2.2.2.2.2.1)))))))))))))))), ((zqk NB198_199.out).trans (((zqk NB198_199.out).trans (((zqk NB198_199.out).trans (((zqk NB198_199.out).trans (((zqk NB198_199.out).trans (((zqk NB198_199.out).trans (((zqk NB198_199.out).trans (((zqk NB198_199.out).trans (hHeld.2.2.2.2.2.2.2.2.2.1)))))))))))))))), ((zqk NB198_199.out).trans (((zqk NB198_199.out).trans (((zqk NB198_199.out).trans (((zqk NB198_199.out).trans (((zqk NB198_199.out).trans (((zqk NB198_199.out).trans (((zqk NB198_199.out).trans (((zqk NB198_199.out).trans (hHeld.2.2.2.2.2.2.2.2.2.2.1)))))))))))))))), ((zqk NB198_199.out).trans (((zqk NB198_199.out).trans (((zqk NB198_199.out).trans (((zqk NB198_199.out).trans (((zqk NB198_199.out).trans (((zqk NB198_199.out).trans (((zqk NB198_199.out).trans (((zqk NB198_199.out).trans (hHeld.2.2.2.2.2.2.2.2.2.2.2.1)))))))))))))))), ((zqk NB198_199.out).trans (((zqk NB198_199.out).trans (((zqk NB198_199.out).trans (((zqk NB198_199.out).trans (((zqk NB198_199.out).trans (((zqk NB198_199.out).trans (((zqk NB198_199.out).trans (((zqk NB198_199.out).trans (hHeld.2.2.2.2.2.2.2.2.2.2.2.2.1)))))))))))))))), ((zqk NB198_199.out).trans (((zqk NB198_199.out).trans (((zqk NB198_199.out).trans (((zqk NB198_199.out).trans (((zqk NB198_199.out).trans (((zqk NB198_199.out).trans (((zqk NB198_199.out).trans (((zqk NB198_199.out).trans (hHeld.2.2.2.2.2.2.2.2.2.2.2.2.2.1)))))))))))))))), ((zqk NB198_199.out).trans (((zqk NB198_199.out).trans (((zqk NB198_199.out).trans (((zqk NB198_199.out).trans (((zqk NB198_199.out).trans (((zqk NB198_199.out).trans (((zqk NB198_199.out).trans (((zqk NB198_199.out).trans (hHeld.2.2.2.2.2.2.2.2.2.2.2.2.2.2.1)))))))))))))))), ((zqk NB198_199.out).trans (((zqk NB198_199.out).trans (((zqk NB198_199.out).trans (((zqk NB198_199.out).trans (((zqk NB198_199.out).trans (((zqk NB198_199.out).trans (((zqk NB198_199.out).trans (((zqk NB198_199.out).trans (hHeld.2.2.2.2.2.2.2.2.2.2.2.2.2.2.2.1)))))))))))))))), ((zqk NB198_199.out).trans (((zqk NB198_199.out).trans (((zqk NB198_199.out).trans (((zqk NB198_199.out).trans (((zqk NB198_199.out).trans (((zqk NB198_199.out).trans (((zqk NB198_199.out).trans (((zqk NB198_199.out).trans (hHeld.2.2.2.2.2.2.2.2.2.2.2.2.2.2.2.2.1)))))))))))))))), ((zqk NB198_199.out).trans (((zqk NB198_199.out).trans (((zqk NB198_199.out).trans (((zqk NB198_199.out).trans (((zqk NB198_199.out).trans (((zqk NB198_199.out).trans (((zqk NB198_199.out).trans (((zqk NB198_199.out).trans (hHeld.2.2.2.2.2.2.2.2.2.2.2.2.2.2.2.2.2.1)))))))))))))))), ((zqk NB198_199.out).trans (((zqk NB198_199.out).trans (((zqk NB198_199.out).trans (((zqk NB198_199.out).trans (((zqk NB198_199.out).trans (((zqk NB198_199.out).trans (((zqk NB198_199.out).trans (((zqk NB198_199.out).trans (hHeld.2.2.2.2.2.2.2.2.2.2.2.2.2.2.2.2.2.2.1)))))))))))))))), ((zqk NB198_199.out).trans (((zqk NB198_199.out).trans (((zqk NB198_199.out).trans (((zqk NB198_199.out).trans (((zqk NB198_199.out).trans (((zqk NB198_199.out).trans (((zqk NB198_199.out).trans (((zqk NB198_199.out).trans (hHeld.2.2.2.2.2.2.2.2.2.2.2.2.2.2.2.2.2.2.2))))))))))))))))⟩ (fun hHeld => ?_)
       clear hK K
       refine zqp 5 (some 5) (zqB 7 63) (by kernel_rfl) (h := ?_)
       refine zqp 6 (some 6) (zqB 7 127) (by kernel_rfl) (h := ?_)
       refine done_ (by kernel_rfl) ?_
       try go_wp2
       refine bodyPost_ret (results_ctt rfl _ _ gb199 40 #[.int .i64 t200, .int .i64 t201, .int .i64 t202, .int .i64 t203, .int .i64 t204, .int .u64 t205, .int .u64 t206, .int .u64 t207] (0, 0) _ rfl (by exact zqC (blk_set (blk_set (blk_set (blk_set (blk_set (blk_set (blk_set (blk_set BK199.out 0 _) 1 _) 2 _) 3 _) 4 _) 5 _) 6 _) 7 _) (by simp only [List.setIfInBounds_toArray, List.set_cons_zero, List.set_cons_succ])) Try.underlying40 rfl (by kernel_rfl)) rfl ?_
       exact ⟨by first | rfl | (simp [errW_none, errW_some] <;> rfl) | (simp [*, errW_none, errW_some] <;> rfl), by repeat (first | (with_reducible first | exact HB.out | apply zqg | apply zqf | apply zqh | refine below_set ?_ GE198.out | refine below_set ?_ GE199.out | refine below_set ?_ GE209.out) | exact HB.out)⟩
      ·
       replace c25 := Bool.eq_false_iff.mpr c25
       subst c25
       have H1 : (some (a0_4, a0_5, a0_6, a0_7, a0_8, a0_9, a0_10, a0_11, 0, false)) = some (r1, r2, r3, r4, r5, r6, r7, r8, r9, r10) := by rw [if_neg (show ¬ (false = true) by decide)] at H; exact H
       clear H
       have H := H1
       clear H1
       simp only [Option.some.injEq, Prod.mk.injEq] at H
       obtain ⟨rfl, rfl, rfl, rfl, rfl, rfl, rfl, rfl, rfl, rfl⟩ := H
       have hnb45 := NB198_199.out
       have hnc45 := NB199_198.out
       obtain ⟨hcz46_0, hcz46_1, hcz46_2, hcz46_3, hcz46_4, hcz46_5, hcz46_6, hcz46_7, hcz46_8, hcz46_9, hcz46_10, hcz46_11, hfz46_0, hfz46_1, hfz46_2, hfz46_3, hfz46_4, hfz46_5, hfz46_6, hfz46_7, hfz46_8, hfz46_9, hfz46_10, hfz46_11⟩ := zqz12 BK198.out
       go_wp2_with (first | ((with_reducible refine gate_value (x := .tmp 38) rfl ⟨_, rfl⟩ ?_); refine goesV_ (some 40) rfl rfl (state_here_to.known A24.out) #[.agg #[.int .i64 a0_0, .int .i64 a0_1, .int .i64 a0_2, .slice A0_3 l0_3.length c0_3, .int .i64 a0_4, .int .i64 a0_5, .int .i64 a0_6, .int .i64 a0_7, .int .i64 a0_8, .int .u64 a0_9, .int .u64 a0_10, .int .u64 a0_11], .int .i64 a1] #[.agg #[.int .i64 a0_0, .int .i64 a0_1, .int .i64 a0_2, .slice A0_3 l0_3.length c0_3, .int .i64 a0_4, .int .i64 a0_5, .int .i64 a0_6, .int .i64 a0_7, .int .i64 a0_8, .int .u64 a0_9, .int .u64 a0_10, .int .u64 a0_11]] (.tmp 38) rfl rfl (by first | rfl | (simp; done) | (simp; rfl)) ?_; (with_reducible refine (state_here_to.calls kj12 x7_12 a0_0 a0_1 a0_2 _ _ l0_3 a0_4 a0_5 a0_6 a0_7 a0_8 a0_9 a0_10 a0_11 a1 t200 t201 t202 t203 t204 t205 t206 t207 false _ ?side1 ?side2 A24.out).mono ?_); (case side1 => repeat (first | exact (Kd.C_below HR0_3.out HB.out) | (with_reducible refine Kd.C_alloc ?_ _) | (with_reducible refine Kd.C_drewN ?_ _) | (with_reducible refine Kd.C_drew ?_))); (case side2 => exact HC0_3.out); rintro e w47 ⟨rfl, hb⟩; refine ⟨_, rfl, ?_⟩; have n0_ := zqi (zqy BK198.out hb); have n1_ := zqi (zqy BK199.out hb); have n2_ := zqi (below_step (zqn HB.out) hb); clear BK198; clear BK199; clear HB; have BK198 := n0_; have BK199 := n1_; have HB := n2_; clear n0_ n1_ n2_; (try clear hb); (try clear hb2); (try clear hk); (try clear hi)) | ((with_reducible refine gate_dst (N := 8) rfl ?_); refine box_event ?hg (N := 8) ?hd (cs := #[.int .i64 0, .int .i64 0, .int .i64 0, .int .i64 0, .int .i64 0, .int .u64 0, .int .u64 0, .int .u64 0]) (t := 40) ?hr ?_; (case hd => rfl); (case hg => rfl); (case hr => first | (go_simp; done) | (go_simp; rfl)); intro gb209 hg w48 hbox hb; have n0_ := zqi (zqy BK198.out hb); have n1_ := zqi (zqy BK199.out hb); have n2_ := zqi (below_step (zqn HB.out) hb); have n3_ := zqi (hbox); have n4_ := zqi (zqo hg HB.out); have n5_ := zqi (zqo hg HB.out); have n6_ := zqi ((zqq hg BK198.out)); have n7_ := zqi ((zqr hg BK198.out)); have n8_ := zqi ((zqq hg BK199.out)); have n9_ := zqi ((zqr hg BK199.out)); clear BK198; clear BK199; clear HB; have BK198 := n0_; have BK199 := n1_; have HB := n2_; have BK209 := n3_; have GW209 := n4_; have GE209 := n5_; have NB198_209 := n6_; have NB209_198 := n7_; have NB199_209 := n8_; have NB209_199 := n9_; clear n0_ n1_ n2_ n3_ n4_ n5_ n6_ n7_ n8_ n9_; clear hb hbox hg; have hnb49 := NB209_198.out; have hnc49 := NB198_209.out; have hnb50 := NB209_199.out; have hnc50 := NB199_209.out; obtain ⟨hcz51_0, hcz51_1, hcz51_2, hcz51_3, hcz51_4, hcz51_5, hcz51_6, hcz51_7, hfz51_0, hfz51_1, hfz51_2, hfz51_3, hfz51_4, hfz51_5, hfz51_6, hfz51_7⟩ := zqz8 BK209.out; obtain ⟨hcz52_0, hcz52_1, hcz52_2, hcz52_3, hcz52_4, hcz52_5, hcz52_6, hcz52_7, hcz52_8, hcz52_9, hcz52_10, hcz52_11, hfz52_0, hfz52_1, hfz52_2, hfz52_3, hfz52_4, hfz52_5, hfz52_6, hfz52_7, hfz52_8, hfz52_9, hfz52_10, hfz52_11⟩ := zqz12 BK198.out; obtain ⟨hcz53_0, hcz53_1, hcz53_2, hcz53_3, hcz53_4, hcz53_5, hcz53_6, hcz53_7, hfz53_0, hfz53_1, hfz53_2, hfz53_3, hfz53_4, hfz53_5, hfz53_6, hfz53_7⟩ := zqz8 BK199.out))
       refine bodyPost_ret (results_ctt rfl _ _ gb199 40 #[.int .i64 a0_4, .int .i64 a0_5, .int .i64 a0_6, .int .i64 a0_7, .int .i64 a0_8, .int .u64 a0_9, .int .u64 a0_10, .int .u64 a0_11] (0, 0) _ rfl (by exact zqC (blk_set (blk_set (blk_set (blk_set (blk_set (blk_set (blk_set (blk_set (blk_far (blk_far (blk_far (blk_far (blk_far (blk_far (blk_far (blk_far BK199.out NB199_209.out _) NB199_209.out _) NB199_209.out _) NB199_209.out _) NB199_209.out _) NB199_209.out _) NB199_209.out _) NB199_209.out _) 0 _) 1 _) 2 _) 3 _) 4 _) 5 _) 6 _) 7 _) (by simp only [List.setIfInBounds_toArray, List.set_cons_zero, List.set_cons_succ])) Try.underlying40 rfl (by kernel_rfl)) rfl ?_
       exact ⟨by first | rfl | (simp [errW_none, errW_some] <;> rfl) | (simp [*, errW_none, errW_some] <;> rfl), by repeat (first | (with_reducible first | exact HB.out | apply zqg | apply zqf | apply zqh | refine below_set ?_ GE198.out | refine below_set ?_ GE199.out | refine below_set ?_ GE209.out) | exact HB.out)⟩

end Go.Proofs.Ytjiammiihamkiaa.PC
