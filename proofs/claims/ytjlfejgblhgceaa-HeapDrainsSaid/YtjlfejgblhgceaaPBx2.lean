-- Printed for this claim by wip/tools/xprint.py over the kit's print; the contracts marked BY HAND are this session's own.
import Derived.Test.YtjlfejgblhgceaaPBx0
import Derived.Test.YtjlfejgblhgceaaPBx1
namespace Go.Proofs.Ytjlfejgblhgceaa.PB
open Go.RowKit Go.Proofs.YtjlfejgblhgceaaW.PrintWords Go.Proofs.YtjlfejgblhgceaaW.PrintLast Go.Proofs.YtjlfejgblhgceaaW.PrintMore
attribute [local go_sem] max2_int min2_int max_two min_two max_three min_three max_four min_four   -- for this text's walks alone
set_option linter.unusedVariables false
set_option linter.unusedSimpArgs false

/-! ### heap_item_put: function 21, BY HAND -/
theorem hidH {p : Prop} (h : p) : Hid p := h
/-- Does an entry come out ahead of another one? -/
def lessE (o : Int) (a b : S23) : Bool :=
  if o = 0 then (decide (a.f0 < b.f0) || (a.f0 == b.f0 && (decide (a.f1 > b.f1) || (a.f1 == b.f1 && decide (a.f2 < b.f2)))))
  else if o = 1 then (decide (a.f1 > b.f1) || (a.f1 == b.f1 && (decide (a.f0 < b.f0) || (a.f0 == b.f0 && decide (a.f2 < b.f2)))))
  else (decide (a.f2 < b.f2) || (a.f2 == b.f2 && (decide (a.f0 < b.f0) || (a.f0 == b.f0 && decide (a.f1 < b.f1)))))
def sgn (a b : Int) : Int := if a < b then -1 else if a > b then 1 else 0
theorem cmp_eq (a b : Int) : cmp_Compare_int.f a b = some (sgn a b) := by
  unfold cmp_Compare_int.f cmp_isNaN_int.f sgn
  simp only [bne_self_eq_false, Option.bind_some, Bool.false_eq_true, if_false]
  split
  · rfl
  · split <;> rfl
theorem or3 : ∀ x ∈ [(-1 : Int), 0, 1], ∀ y ∈ [(-1 : Int), 0, 1], ∀ z ∈ [(-1 : Int), 0, 1], cmp_Or_int.f 5 [x, y, z] = some (if x ≠ 0 then x else if y ≠ 0 then y else z) := by decide +kernel
theorem sgn_mem (a b : Int) : sgn a b ∈ [(-1 : Int), 0, 1] := by
  unfold sgn
  split
  · simp
  · split <;> simp
theorem neg_mem {x : Int} (h : x ∈ [(-1 : Int), 0, 1]) : wrap64 (-x) ∈ [(-1 : Int), 0, 1] ∧ wrap64 (-x) = -x := by
  simp only [List.mem_cons, List.mem_nil_iff, or_false] at h
  rcases h with rfl | rfl | rfl <;> exact ⟨by decide +kernel, by decide +kernel⟩
theorem first_neg {a b c d e f : Int} : decide ((if sgn a b ≠ 0 then sgn a b else if sgn c d ≠ 0 then sgn c d else sgn e f) < 0) = (decide (a < b) || (a == b && (decide (c < d) || (c == d && decide (e < f))))) := by
  have key : ∀ p q : Int, (p < q ∧ sgn p q = -1 ∧ (p == q) = false) ∨ (p = q ∧ sgn p q = 0 ∧ (p == q) = true) ∨ (q < p ∧ sgn p q = 1 ∧ (p == q) = false) := by
    intro p q
    unfold sgn
    rcases Int.lt_trichotomy p q with h | h | h
    · exact .inl ⟨h, by rw [if_pos h], by simp; omega⟩
    · subst h; exact .inr (.inl ⟨rfl, by simp, by simp⟩)
    · exact .inr (.inr ⟨h, by rw [if_neg (by omega), if_pos h], by simp; omega⟩)
  rcases key a b with ⟨h1, s1, e1⟩ | ⟨h1, s1, e1⟩ | ⟨h1, s1, e1⟩
  · rw [s1, e1, decide_eq_true h1]; rfl
  · rw [s1, e1, decide_eq_false (show ¬ a < b by omega)]
    rcases key c d with ⟨h2, s2, e2⟩ | ⟨h2, s2, e2⟩ | ⟨h2, s2, e2⟩
    · rw [s2, e2, decide_eq_true h2]; rfl
    · rw [s2, e2, decide_eq_false (show ¬ c < d by omega)]
      rcases key e f with ⟨h3, s3, e3⟩ | ⟨h3, s3, e3⟩ | ⟨h3, s3, e3⟩
      · rw [s3, decide_eq_true h3]; rfl
      · rw [s3, decide_eq_false (show ¬ e < f by omega)]; rfl
      · rw [s3, decide_eq_false (show ¬ e < f by omega)]; rfl
    · rw [s2, e2, decide_eq_false (show ¬ c < d by omega)]; rfl
  · rw [s1, e1, decide_eq_false (show ¬ a < b by omega)]; rfl
theorem sgn_neg (a b : Int) : -sgn a b = sgn b a := by
  unfold sgn
  rcases Int.lt_trichotomy a b with h | h | h
  · rw [if_pos h, if_neg (by omega), if_pos h]; rfl
  · subst h; simp
  · rw [if_neg (by omega), if_pos h, if_pos h]
theorem less_eq (o : Int) (a b : S23) : heap_Less.f 5 o a.f0 a.f1 a.f2 b.f0 b.f1 b.f2 = some (lessE o a b) := by
  unfold heap_Less.f heap_compare.f lessE
  simp only [cmp_eq, Option.bind_some]
  have h1 := sgn_mem a.f0 b.f0
  have h2 := sgn_mem a.f1 b.f1
  have h3 := sgn_mem a.f2 b.f2
  obtain ⟨h4, e4⟩ := neg_mem h2
  have eq : ∀ p q : Int, (p == q) = (q == p) := fun p q => by
    by_cases h : p = q
    · subst h; rfl
    · rw [beq_eq_false_iff_ne.2 h, beq_eq_false_iff_ne.2 (Ne.symm h)]
  by_cases c0 : o = 0
  · rw [if_pos c0, if_pos c0, or3 _ h1 _ h4 _ h3]
    simp only [Option.bind_some]
    rw [e4, sgn_neg]
    rw [first_neg, eq b.f1 a.f1]
  · rw [if_neg c0, if_neg c0]
    by_cases c1 : o = 1
    · rw [if_pos c1, if_pos c1, or3 _ h4 _ h1 _ h3]
      simp only [Option.bind_some]
      rw [e4, sgn_neg]
      rw [first_neg, eq b.f1 a.f1]
    · rw [if_neg c1, if_neg c1, or3 _ h3 _ h1 _ h2]
      simp only [Option.bind_some]
      rw [first_neg]
/-- An item tells it by its order. -/
theorem ahead_is (x y : S52) (w : World) : Calls Try.prog 41 #[.agg #[.int .i64 x.f0.f0, .int .i64 x.f0.f1, .int .i64 x.f0.f2, .int .i64 x.f1], .agg #[.int .i64 y.f0.f0, .int .i64 y.f0.f1, .int .i64 y.f0.f2, .int .i64 y.f1]] w fun e w' => e = .returned (.bool (lessE x.f1 x.f0 y.f0)) ∧ Below w.heap.size w w' := by
  have HL := hidH (less_eq x.f1 x.f0 y.f0)
  go_enter Try.func41, Try.ntmps41
  go_wp2_with (go_at_call 10; (with_reducible refine (heap_Less.calls 5 _ _ _ _ _ _ _ _ _ HL.out).mono ?_); rintro e w1 ⟨rfl, hb⟩)
  go_ret
  exact ⟨rfl, below_step (below_alloc (below_alloc (Below.refl _ _) _) _) hb⟩
instance : Inhabited S23 := ⟨z23⟩
/-- The heap in block g: its row's block is r, its order o. -/
def HeapAt (w : World) (base g : Nat) (r : Option Nat) (o : Int) (xs : List S23) : Prop :=
  base ≤ g ∧ ∃ v, w.heap[g]? = some (.cells #[v, .int .i64 o] 49 (0, 0)) ∧ v.ownBlock = r ∧ Kd.R k52 52 w base (fun _ => True) v (xs.map fun e => ⟨e, o⟩)
/-- Nothing but the heap's block and its row has turned. -/
structure Frame (w w' : World) (g : Nat) (r r' : Option Nat) : Prop where
  os : w'.os = w.os
  tape : w'.tape = w.tape
  output : w'.output = w.output
  size : w.heap.size ≤ w'.heap.size
  block : ∀ k, k < w.heap.size → k ≠ g → some k ≠ r → w'.heap[k]? = w.heap[k]?
  row : r' = r ∨ ∃ b, r' = some b ∧ w.heap.size ≤ b
theorem want_ {P : Program} {ops : Array Oper} {oi : Oper} {a : Act} {w : World} {K : Act → World → Prop} {Q : Exit → Act → World → Prop} {N : Option Tmp} (hw : Region.wanted oi (yielded ops a.tmps) = true) (h : Oper.wp P oi a w K Q) : if Region.wanted oi (yielded ops a.tmps) = true then Oper.wp P oi a w K Q else K (a.put N undef) w := by
  rw [if_pos hw]
  exact h
theorem scope_once {P : Program} {a : Act} {w : World} {Q : Exit → Act → World → Prop} {c rest : Code} (l : Nat) (J : Act → World → Prop) (μ : Act → World → Nat) (hf : findLabel c l = some (.seq .skip rest))
    (first : ∀ J' : Act → World → Prop, (∀ a w, J a w → rest.wp P (Exit.jump l J' Q) a w) → c.wp P (Exit.jump l J' Q) a w)
    (pass : ∀ a w, J a w → ∀ J' : Act → World → Prop, (∀ a' w', J a' w' → μ a' w' < μ a w → J' a' w') → rest.wp P (Exit.jump l J' Q) a w) : (Code.scope c).wp P Q a w := by
  refine wp_scope_jumps l J μ hf (first J fun a w h => wp_mono (pass a w h _ (fun _ _ h1 h2 => And.intro h1 h2)) (fun e a' w' hq => ?_)) (fun a w h => wp_seq (wp_skip (pass a w h _ (fun _ _ h1 h2 => And.intro h1 h2))))
  cases e with
  | goto l' => exact ⟨hq.1, hq.2.1⟩
  | normal => exact hq
  | exit id => exact hq
  | ret => exact hq
  | panic ch => exact hq
  | outgrown => exact hq
/-- What holds while an entry goes up: it stands at i. -/
def PutInv (w : World) (base g : Nat) (r : Option Nat) (o : Int) (xs : List S23) (x : S23) (w' : World) (i : Nat) (ys : List S23) (r' : Option Nat) : Prop :=
  HeapAt w' base g r' o ys ∧ ys.Perm (xs ++ [x]) ∧ (HeapPure.Ord (lessE o) xs → HeapPure.Up (lessE o) ys i) ∧ Frame w w' g r r' ∧ Below base w w'
theorem ahead_meth (v y : Value) (w : World) : (callMethod (.iface 52 v) "haulier/heap.ahead" #[y]).run Try.prog w = .ok (.enter 41 #[v, y]) w := by kernel_rfl
theorem goesM {P : Program} {ops : Array Oper} {Q : Exit → Act → World → Prop} {oi : Oper} {N : Option Tmp} {a : Act} {w : World} {K : Act → World → Prop} (recv x : Operand) (name : String) (ts : Array TypeId) (f : FuncId) (v y : Value) (args : Array Value)
    (hw : Region.wanted oi (yielded ops a.tmps) = true) (hN : oi.dst = N) (hop : oi.op = .call { callee := .invoke recv name, args := #[x], argTypes := ts }) (hv : a.eval recv = v) (hy : a.eval x = y) (hm : (callMethod v name #[y]).run P w = .ok (.enter f args) w)
    (h : Calls P f args w fun e w' => ∃ v, e = .returned v ∧ K (a.put N v) w') : if Region.wanted oi (yielded ops a.tmps) = true then Oper.wp P oi a w K Q else K (a.put N undef) w := by
  refine call_ f args hw hN ?_ h
  unfold execOp
  simp [hop, resolve, invoke, hv, hy, hm]
/-- Element i of a row of items of one's own: its cells. -/
theorem item_at {w : World} {base n cap : Nat} {ok : Nat → Prop} {ad : Addr} {xs : List S52} (h : Kd.R k52 52 w base ok (.slice (some ad) n cap) xs) (i : Nat) (hi : i < xs.length) :
    w.cell? (ad.add (i * 4)) = some (.int .i64 xs[i].f0.f0) ∧ w.cell? ⟨(ad.add (i * 4)).block, (ad.add (i * 4)).off + 1, none⟩ = some (.int .i64 xs[i].f0.f1) ∧ w.cell? ⟨(ad.add (i * 4)).block, (ad.add (i * 4)).off + 2, none⟩ = some (.int .i64 xs[i].f0.f2) ∧ w.cell? ⟨(ad.add (i * 4)).block, (ad.add (i * 4)).off + 3, none⟩ = some (.int .i64 xs[i].f1) := by
  have hn := (Kd.R_reads' h).1
  obtain ⟨c, hcl, hM, hcc⟩ := Kd.R_get h z52 (i : Int) (by omega) (by omega)
  have hx : xs.getD (i : Int).toNat z52 = xs[i] := by rw [Int.toNat_natCast]; simp [List.getD, List.getElem?_eq_getElem hi]
  rw [hx] at hM
  rw [Int.toNat_natCast] at hcc
  obtain rfl := k52_openM hM
  have hc : ∀ j u, _ → w.cell? (ad.add (i * 4 + j)) = some u := hcc
  exact ⟨hc 0 _ rfl, by rw [← add_field _ _ 1 (by omega)]; exact hc 1 _ rfl, by rw [← add_field _ _ 2 (by omega)]; exact hc 2 _ rfl, by rw [← add_field _ _ 3 (by omega)]; exact hc 3 _ rfl⟩
/-- What is read: the heap's row, two of its items. -/
def TwoS (wr : World) (g : Nat) (v : Value) (p q : Addr) (o : Int) (a b : S23) (w' : World) : Prop := w'.cell? ⟨g, 0, none⟩ = some v ∧ w'.cell? p = some (.int .i64 a.f0) ∧ w'.cell? ⟨p.block, p.off + 1, none⟩ = some (.int .i64 a.f1) ∧ w'.cell? ⟨p.block, p.off + 2, none⟩ = some (.int .i64 a.f2) ∧ w'.cell? ⟨p.block, p.off + 3, none⟩ = some (.int .i64 o) ∧ w'.cell? q = some (.int .i64 b.f0) ∧ w'.cell? ⟨q.block, q.off + 1, none⟩ = some (.int .i64 b.f1) ∧ w'.cell? ⟨q.block, q.off + 2, none⟩ = some (.int .i64 b.f2) ∧ w'.cell? ⟨q.block, q.off + 3, none⟩ = some (.int .i64 o) ∧ Below wr.heap.size wr w'
theorem TwoS.on {wr W W' : World} {g : Nat} {v : Value} {p q : Addr} {o : Int} {a b : S23} (h : TwoS wr g v p q o a b W) (hb : Below W.heap.size W W') : TwoS wr g v p q o a b W' := by
  obtain ⟨x0, x1, x2, x3, x4, x5, x6, x7, x8, hB⟩ := h
  exact ⟨pw_cell_below hb x0, pw_cell_below hb x1, pw_cell_below hb x2, pw_cell_below hb x3, pw_cell_below hb x4, pw_cell_below hb x5, pw_cell_below hb x6, pw_cell_below hb x7, pw_cell_below hb x8, below_step hB hb⟩
theorem TwoS.drew {wr W : World} {g : Nat} {v : Value} {p q : Addr} {o : Int} {a b : S23} (h : TwoS wr g v p q o a b W) : TwoS wr g v p q o a b W.drew := h.on (below_drew1 (Below.refl _ _))
theorem TwoS.below {wr W : World} {g : Nat} {v : Value} {p q : Addr} {o : Int} {a b : S23} (h : TwoS wr g v p q o a b W) : Below wr.heap.size wr W := h.2.2.2.2.2.2.2.2.2
theorem two_at {w : World} {base g n cap : Nat} {o : Int} {ad : Addr} {ys : List S23} (hg : w.heap[g]? = some (.cells #[.slice (some ad) n cap, .int .i64 o] 49 (0, 0))) (h : Kd.R k52 52 w base (fun _ => True) (.slice (some ad) n cap) (ys.map fun e => ⟨e, o⟩)) (i j : Nat) (hi : i < ys.length) (hj : j < ys.length) :
    TwoS w g (.slice (some ad) n cap) (ad.add (i * 4)) (ad.add (j * 4)) o ys[i] ys[j] w := by
  obtain ⟨a0, a1, a2, a3⟩ := item_at h i (by simpa using hi)
  obtain ⟨b0, b1, b2, b3⟩ := item_at h j (by simpa using hj)
  simp only [List.getElem_map] at a0 a1 a2 a3 b0 b1 b2 b3
  exact ⟨blk_cell hg 0, a0, a1, a2, a3, b0, b1, b2, b3, Below.refl _ _⟩
theorem ahead_r {o : Int} {a b : S23} {r : Bool} (h : lessE o a b = r) (w : World) : Calls Try.prog 41 #[.agg #[.int .i64 a.f0, .int .i64 a.f1, .int .i64 a.f2, .int .i64 o], .agg #[.int .i64 b.f0, .int .i64 b.f1, .int .i64 b.f2, .int .i64 o]] w fun e w' => e = .returned (.bool r) ∧ Below w.heap.size w w' := by
  subst h
  exact ahead_is ⟨a, o⟩ ⟨b, o⟩ w
theorem Frame.below {w W W' : World} {g : Nat} {r r' : Option Nat} (h : Frame w W g r r') (hb : Below W.heap.size W W') : Frame w W' g r r' :=
  ⟨hb.os.trans h.os, hb.tape.trans h.tape, hb.output.trans h.output, Nat.le_trans h.size hb.size, fun k hk h1 h2 => (hb.block k (Nat.lt_of_lt_of_le hk h.size)).trans (h.block k hk h1 h2), h.row⟩
theorem HeapAt.below {W W' : World} {base g : Nat} {r : Option Nat} {o : Int} {xs : List S23} (h : HeapAt W base g r o xs) (hb : Below W.heap.size W W') : HeapAt W' base g r o xs := by
  obtain ⟨h1, v, h2, h3, h4⟩ := h
  exact ⟨h1, v, blk_below h2 hb, h3, Kd.R_below h4 hb⟩
theorem getD_at {ys : List S23} {i : Nat} (h : i < ys.length) : ys.getD i default = ys[i] := by rw [List.getD, List.getElem?_eq_getElem h]; rfl
/-- An item is stored into a row of items of one's own. -/
theorem store_item {P : Program} {o' : Oper} {a : Act} {W : World} {K : Act → World → Prop} {Q : Exit → Act → World → Prop} (t : TypeId) (p x : Operand) (ho : o'.op = .store t p x) (hN : o'.dst = none) {base gr n cap : Nat} {ys : List S23} {o : Int} (i : Nat) (e : S23) {ad : Addr}
    (haddr : a.eval p = .pointer (some (ad.add (i * 4)))) (had : ad = ⟨gr, 0, none⟩) (hx : a.eval x = .agg #[.int .i64 e.f0, .int .i64 e.f1, .int .i64 e.f2, .int .i64 o]) (ht : (P.info? t).map (·.size) = some 4)
    (HR : Kd.R k52 52 W base (fun _ => True) (.slice (some ad) n cap) (ys.map fun e => ⟨e, o⟩)) (hi : i < ys.length)
    (h : ∀ W1, Kd.R k52 52 W1 base (fun _ => True) (.slice (some ad) n cap) ((ys.set i e).map fun e => ⟨e, o⟩) → W.grownBy W1 (some gr) → K a W1) : Oper.wp P o' a W K Q := by
  subst had
  have hn : n = ys.length := by have := (Kd.R_reads' HR).1; rwa [List.length_map] at this
  obtain ⟨cOld, hcl, -, hcc, -⟩ := Kd.R_elem HR z52 (i : Int) (by omega) (by omega)
  have hM : k52.M W base (fun _ => False) (⟨e, o⟩ : S52) (cOld.take 0 ++ [.int .i64 e.f0, .int .i64 e.f1, .int .i64 e.f2, .int .i64 o] ++ cOld.drop (0 + 4)) := by
    rw [List.take_zero, List.nil_append, List.drop_eq_nil_of_le (by rw [hcl]; exact Nat.le_refl 4), List.append_nil]
    exact k52_mkM _ _ _ (⟨e, o⟩ : S52)
  obtain ⟨hrow, hg⟩ := Kd.R_seg HR (i : Int) (by omega) (by omega) hcl hcc (j := 0) (seg := [.int .i64 e.f0, .int .i64 e.f1, .int .i64 e.f2, .int .i64 o]) (Nat.le_refl 4) hM (fun _ hk => hk.elim)
  rw [Int.toNat_natCast, ← List.map_set] at hrow
  rw [Int.toNat_natCast] at hg
  obtain ⟨_, inner, hown, hr⟩ := HR
  have hrun : (Instr.storeAt t (.pointer (some ⟨gr, i * 4 + 0, none⟩)) (.agg #[.int .i64 e.f0, .int .i64 e.f1, .int .i64 e.f2, .int .i64 o])).run P W = .ok () (W.setCells gr (i * 4 + 0) [.int .i64 e.f0, .int .i64 e.f1, .int .i64 e.f2, .int .i64 o]) := by
    rcases hown.2 with ⟨hv, _⟩ | ⟨g', cap', cur, hv, hb, hh, hnc, hcm, hcs, _⟩
    · cases hv
    injection hv with ha _ hc
    injection ha with ha
    injection ha with hg'
    subst hg'; subst hc
    refine run_store_run t _ [.int .i64 e.f0, .int .i64 e.f1, .int .i64 e.f2, .int .i64 o] hh rfl ht ?_ (by simp [Value.oneCell'])
    have h3 : n * 4 ≤ cap * 4 := Nat.mul_le_mul_right _ (by rw [List.length_map] at hnc; omega)
    rw [hcs]
    show i * 4 + 0 + 4 ≤ cap * 4
    omega
  have haddr' : a.eval p = .pointer (some ⟨gr, i * 4 + 0, none⟩) := by rw [haddr, add_at, Nat.zero_add, Nat.add_zero]
  unfold Oper.wp execOp
  simp only [ho, haddr', hx, Sem.run_bind, Sem.run_pure, Result.andThen_ok, hrun]
  show K (a.put o'.dst undef) _
  rw [hN]
  exact h _ hrow hg
theorem Frame.grown {w W W' : World} {g : Nat} {r r' : Option Nat} (h : Frame w W g r r') (hb : W.grownBy W' r') : Frame w W' g r r' :=
  ⟨hb.os.trans h.os, hb.tape.trans h.tape, hb.output.trans h.output, Nat.le_trans h.size hb.size, fun k hk h1 h2 => (hb.block k (Nat.lt_of_lt_of_le hk h.size) (by rcases h.row with e | ⟨b, e, hle⟩; (rw [e]; exact h2); (rw [e]; intro e2; have := Option.some.inj e2; omega))).trans (h.block k hk h1 h2), h.row⟩
theorem less_strict (o : Int) : HeapPure.Strict (lessE o) where
  irr := fun a => by unfold lessE; split; · simp
                     · split <;> simp
  tr := fun a b c h h' => by
    unfold lessE at *
    by_cases c0 : o = 0
    · simp only [if_pos c0, Bool.or_eq_true, Bool.and_eq_true, decide_eq_true_eq, beq_iff_eq] at *
      omega
    · by_cases c1 : o = 1
      · simp only [if_neg c0, if_pos c1, Bool.or_eq_true, Bool.and_eq_true, decide_eq_true_eq, beq_iff_eq] at *
        omega
      · simp only [if_neg c0, if_neg c1, Bool.or_eq_true, Bool.and_eq_true, decide_eq_true_eq, beq_iff_eq] at *
        omega
  tot := fun a b => by
    by_cases e : a.f0 = b.f0 ∧ a.f1 = b.f1 ∧ a.f2 = b.f2
    · refine .inr (.inl ?_)
      obtain ⟨x, y, z⟩ := a
      obtain ⟨x', y', z'⟩ := b
      obtain ⟨h1, h2, h3⟩ := e
      simp only at h1 h2 h3
      rw [h1, h2, h3]
    · unfold lessE
      by_cases c0 : o = 0
      · simp only [if_pos c0, Bool.or_eq_true, Bool.and_eq_true, decide_eq_true_eq, beq_iff_eq]
        omega
      · by_cases c1 : o = 1
        · simp only [if_neg c0, if_pos c1, Bool.or_eq_true, Bool.and_eq_true, decide_eq_true_eq, beq_iff_eq]
          omega
        · simp only [if_neg c0, if_neg c1, Bool.or_eq_true, Bool.and_eq_true, decide_eq_true_eq, beq_iff_eq]
          omega
theorem info_item : (Try.prog.info? 52).map (fun i => (i.zero, i.size, i.bytes)) = some (some (.agg #[.int .i64 0, .int .i64 0, .int .i64 0, .int .i64 0]), 4, 32) := by kernel_rfl

set_option maxHeartbeats 2000000 in
theorem tree_put (base g : Nat) (r : Option Nat) (o : Int) (xs : List S23) (x : S23) (w : World) (hbase : base ≤ w.heap.size) (hlen : xs.length ≤ 100000) (h : HeapAt w base g r o xs) :
    Calls Try.prog 21 #[.pointer (some ⟨g, 0, none⟩), .agg #[.int .i64 x.f0, .int .i64 x.f1, .int .i64 x.f2, .int .i64 o]] w fun e w' => e = .returned (.tuple #[]) ∧ ∃ r' ys, HeapAt w' base g r' o ys ∧ ys.Perm (xs ++ [x]) ∧ (HeapPure.Ord (lessE o) xs → HeapPure.Ord (lessE o) ys) ∧ Frame w w' g r r' := by
  obtain ⟨hbg, v, hg, hvr, hR⟩ := h
  obtain ⟨W, hW⟩ : ∃ W, W = w.alloc (.cells #[.int .i64 x.f0, .int .i64 x.f1, .int .i64 x.f2, .int .i64 o] 52) := ⟨_, rfl⟩
  obtain ⟨B, hB⟩ : ∃ B, B = w.heap.size := ⟨_, rfl⟩
  have HX := hidH (show W.heap[B]? = some (.cells #[.int .i64 x.f0, .int .i64 x.f1, .int .i64 x.f2, .int .i64 o] 52 (0, 0)) by rw [hW, hB]; exact blk_new _ _)
  have HG := hidH (show W.heap[g]? = some (.cells #[v, .int .i64 o] 49 (0, 0)) by rw [hW]; exact blk_alloc hg _)
  have HR := hidH (show Kd.R k52 52 W base (fun _ => True) v (xs.map fun e => ⟨e, o⟩) by rw [hW]; exact Kd.R_alloc hR _)
  have HB := hidH (show Below base w W by rw [hW]; exact ((below_alloc (Below.refl _ w) _).mono hbase))
  have HS := hidH (show base ≤ W.heap.size by rw [hW, World.size_alloc]; omega)
  have HW := hidH hW
  have HBB := hidH hB
  have HVR := hidH hvr
  have HBG := hidH hbg
  clear hg hvr hR hW hB hbg hbase
  go_enter Try.func21, Try.ntmps21
  go_wp2
  rw [← HW.out, ← HBB.out]
  refine scope_once 0 (fun a' w' => ∃ (i : Nat) (ys : List S23) (r' : Option Nat) (u : Nat → Value), Hid (PutInv w base g r o xs x w' i ys r') ∧ i < ys.length ∧ ys.length ≤ 200000 ∧ a' = { tmps := #[.pointer (some ⟨g, 0, none⟩), .agg #[.int .i64 x.f0, .int .i64 x.f1, .int .i64 x.f2, .int .i64 o], undef, .pointer (some ⟨B, 0, none⟩), .int .i64 (i : Int), (u 5), (u 6), (u 7), (u 8), (u 9), (u 10), (u 11), (u 12), (u 13), (u 14), (u 15), (u 16), (u 17), (u 18), (u 19), (u 20), (u 21), (u 22), (u 23), (u 24), (u 25), (u 26), (u 27), (u 28), (u 29), (u 30), (u 31), (u 32), (u 33), (u 34), (u 35), (u 36), (u 37), (u 38), (u 39), (u 40), (u 41), (u 42), (u 43), (u 44), (u 45), (u 46), (u 47), (u 48), (u 49), (u 50), (u 51), (u 52), (u 53), (u 54), (u 55), (u 56), (u 57), (u 58), (u 59), (u 60), (u 61), (u 62), (u 63), (u 64), (u 65), (u 66), (u 67), (u 68), (u 69), (u 70), (u 71)], defers := [] }) (fun a' _ => (intOf (a'.tmps.getD 4 undef)).toNat) rfl ?first ?pass
  case first =>
    intro J' hnext
    go_wp2
    refine start_ (n := 11) (S := fun w' => w'.cell? ⟨g, 0, none⟩ = some v ∧ w'.cell? ⟨B, 0, none⟩ = some (.int .i64 x.f0) ∧ w'.cell? ⟨B, 1, none⟩ = some (.int .i64 x.f1) ∧ w'.cell? ⟨B, 2, none⟩ = some (.int .i64 x.f2) ∧ w'.cell? ⟨B, 3, none⟩ = some (.int .i64 o)) (ds := [7, 10]) (zqB 11 0) (by kernel_rfl) rfl rfl (⟨(blk_cell HG.out 0), (blk_cell HX.out 0), (blk_cell HX.out 1), (blk_cell HX.out 2), (blk_cell HX.out 3)⟩) (fun hHeld => ?_)
    generalize hD : W.drew = V at hHeld ⊢
    replace HG := hidH (show V.heap[g]? = some (.cells #[v, .int .i64 o] 49 (0, 0)) by rw [← hD]; exact blk_drew HG.out)
    replace HR := hidH (show Kd.R k52 52 V base (fun _ => True) v (xs.map fun e => ⟨e, o⟩) by rw [← hD]; exact Kd.R_drew HR.out)
    have HBV := hidH (show Below base w V by rw [← hD]; exact HB.out.drew)
    have HSV := hidH (show base ≤ V.heap.size by rw [← hD]; exact HS.out)
    have HVW := hidH hD
    clear hD HB HS
    refine zqp 0 (some 6) (zqB 11 1) (by kernel_rfl) (h := ?_)
    refine zqp 1 (some 7) (zqB 11 3) (by kernel_rfl) (h := ?_)
    refine zqp 2 (some 8) (zqB 11 7) (by kernel_rfl) (h := ?_)
    refine zqp 3 (some 9) (zqB 11 15) (by kernel_rfl) (h := ?_)
    refine zqt 4 (some 10) (zqB 11 31) (by kernel_rfl) hHeld (h := ?_)
    refine zqt 5 (some 11) (zqB 11 63) (by kernel_rfl) hHeld (h := ?_)
    refine one_ (i := 6) (N := some 12) (zqB 11 127) rfl rfl (by kernel_rfl) (by decide) (fun K hK => ?_)
    refine value_ (w1 := ?_) (v := ?_) (by rfl) rfl ?_ ?_
    rotate_left 2
    · go_simp
      constructor
      · rfl
      · rfl
    refine hK.out _ _ ⟨(World.cell?_alloc_lt _ _ _ (World.block_lt_of_cell? _ _ hHeld.1)).trans hHeld.1, (World.cell?_alloc_lt _ _ _ (World.block_lt_of_cell? _ _ hHeld.2.1)).trans hHeld.2.1, (World.cell?_alloc_lt _ _ _ (World.block_lt_of_cell? _ _ hHeld.2.2.1)).trans hHeld.2.2.1, (World.cell?_alloc_lt _ _ _ (World.block_lt_of_cell? _ _ hHeld.2.2.2.1)).trans hHeld.2.2.2.1, (World.cell?_alloc_lt _ _ _ (World.block_lt_of_cell? _ _ hHeld.2.2.2.2)).trans hHeld.2.2.2.2⟩ (fun hHeld => ?_)
    clear hK K
    refine norm_ (a' := ?_) ?_ ?_
    rotate_left
    · show Act.put _ _ _ = _
      simp only [Act.put, List.setIfInBounds_toArray, List.set_cons_zero, List.set_cons_succ, i64_w, i32_w]
      rfl
    refine last_ (i := 7) (N := some 13) (zqB 11 255) rfl rfl (by kernel_rfl) (by decide) (fun K hK => ?_)
    refine Kd.R_append_step k52 (w0 := w) base (by rfl) (.tmp 10) (.tmp 12) 45 52 (.agg #[.int .i64 0, .int .i64 0, .int .i64 0, .int .i64 0]) 32 rfl Try.underlying45 info_item rfl (by decide) (by omega) v (xs.map fun e => ⟨e, o⟩) (⟨x, o⟩ : S52) [.int .i64 x.f0, .int .i64 x.f1, .int .i64 x.f2, .int .i64 o] (fun _ => True) (fun _ => False) rfl rfl ?aP (fun _ hk => hk.elim) (fun _ _ => trivial) ?aO ?aB ?aS ?aL ?_
    case aP => exact k52_mkM _ _ _ (⟨x, o⟩ : S52)
    case aO => exact HR.out
    case aB => exact HBV.out
    case aS => exact HSV.out
    case aL => rw [List.length_map]; omega
    intro v1 w1 ho hb hg hat
    obtain ⟨A1, c1, rfl⟩ := Kd.R_slice ho
    have HO := hidH ho
    have HB1 := hidH hb
    have HG1 := hidH (blk_grown HG.out hg (Kd.R_ne HR.out HG.out (by decide)))
    have HAT := hidH hat
    have HGR := hidH hg
    clear ho hb hg hat
    refine hK.out _ _ ?_
    clear hK K
    refine norm_ (a' := ?_) ?_ ?_
    rotate_left
    · show Act.put _ _ _ = _
      simp only [Act.put, List.setIfInBounds_toArray, List.set_cons_zero, List.set_cons_succ, i64_w, i32_w]
      rfl
    refine zqp 8 (some 14) (zqB 11 511) (by kernel_rfl) (h := ?_)
    refine zqp 9 (some 15) (zqB 11 1023) (by kernel_rfl) (h := ?_)
    refine last_ (i := 10) (N := none) (zqB 11 2047) rfl rfl (by kernel_rfl) (by decide) (fun K hK => ?_)
    refine want_ (by rfl) ?_
    have hc0 := blk_cell HG1.out 0
    have hf0 := blk_frozen HG1.out 0
    go_simp
    refine hK.out _ _ ?_
    clear hK K hc0 hf0
    refine done_ (by kernel_rfl) ?_
    obtain ⟨W2, hW2⟩ : ∃ W2, W2 = w1.setCell ⟨g, 0, none⟩ (.slice A1 (xs.length + 1) c1) := ⟨_, rfl⟩
    have hl1 : (xs.map fun e => (⟨e, o⟩ : S52)).length = xs.length := List.length_map _
    have HG2 := hidH (show W2.heap[g]? = some (.cells #[.slice A1 (xs.length + 1) c1, .int .i64 o] 49 (0, 0)) by rw [hW2]; exact blk_set HG1.out 0 _)
    have HR2 := hidH (show Kd.R k52 52 W2 base (fun _ => True) (.slice A1 (xs.length + 1) c1) ((xs ++ [x]).map fun e => ⟨e, o⟩) by
      rw [hW2, List.map_append]
      have := Kd.R_set HO.out HG1.out (by decide) 0 (.slice A1 (xs.length + 1) c1)
      simpa [hl1] using this)
    have HF2 : Hid (Frame w W2 g r (Value.slice A1 (xs.length + 1) c1).ownBlock ∧ Below base w W2) := hidH (by
      have hb : Below base w W2 := by rw [hW2]; exact HB1.out.setCell HBG.out _
      have hsz : w.heap.size ≤ V.heap.size := by rw [← HVW.out, HW.out]; show w.heap.size ≤ (w.alloc _).heap.size; rw [World.size_alloc]; omega
      refine ⟨⟨hb.os, hb.tape, hb.output, hb.size, fun k hk hkg hkr => ?_, ?_⟩, hb⟩
      · rw [hW2, Below.heap_setCell _ _ _ _ hkg, HGR.out.block k (by omega) (by rw [HVR.out]; exact hkr), ← HVW.out, HW.out]
        exact Below.heap_alloc _ _ _ hk
      · rcases HAT.out with h | ⟨b, h, hle⟩
        · exact .inl (by rw [← HVR.out, ← h]; simp [Value.ownBlock, hl1])
        · exact .inr ⟨b, by rw [← h]; simp [Value.ownBlock, hl1], by omega⟩)
    have hc2 := blk_cell HG2.out 0
    rw [← hW2]
    clear hW2
    go_wp2
    go_step3
    simp only [Exit.then]
    rename_i hKK
    refine hKK _ _ ?_
    have key : ∀ a_ : Act, a_ = { tmps := #[.pointer (some ⟨g, 0, none⟩), .agg #[.int .i64 x.f0, .int .i64 x.f1, .int .i64 x.f2, .int .i64 o], undef, .pointer (some ⟨B, 0, none⟩), .int .i64 (xs.length : Int), (a_.tmps.getD 5 undef), (a_.tmps.getD 6 undef), (a_.tmps.getD 7 undef), (a_.tmps.getD 8 undef), (a_.tmps.getD 9 undef), (a_.tmps.getD 10 undef), (a_.tmps.getD 11 undef), (a_.tmps.getD 12 undef), (a_.tmps.getD 13 undef), (a_.tmps.getD 14 undef), (a_.tmps.getD 15 undef), (a_.tmps.getD 16 undef), (a_.tmps.getD 17 undef), (a_.tmps.getD 18 undef), (a_.tmps.getD 19 undef), (a_.tmps.getD 20 undef), (a_.tmps.getD 21 undef), (a_.tmps.getD 22 undef), (a_.tmps.getD 23 undef), (a_.tmps.getD 24 undef), (a_.tmps.getD 25 undef), (a_.tmps.getD 26 undef), (a_.tmps.getD 27 undef), (a_.tmps.getD 28 undef), (a_.tmps.getD 29 undef), (a_.tmps.getD 30 undef), (a_.tmps.getD 31 undef), (a_.tmps.getD 32 undef), (a_.tmps.getD 33 undef), (a_.tmps.getD 34 undef), (a_.tmps.getD 35 undef), (a_.tmps.getD 36 undef), (a_.tmps.getD 37 undef), (a_.tmps.getD 38 undef), (a_.tmps.getD 39 undef), (a_.tmps.getD 40 undef), (a_.tmps.getD 41 undef), (a_.tmps.getD 42 undef), (a_.tmps.getD 43 undef), (a_.tmps.getD 44 undef), (a_.tmps.getD 45 undef), (a_.tmps.getD 46 undef), (a_.tmps.getD 47 undef), (a_.tmps.getD 48 undef), (a_.tmps.getD 49 undef), (a_.tmps.getD 50 undef), (a_.tmps.getD 51 undef), (a_.tmps.getD 52 undef), (a_.tmps.getD 53 undef), (a_.tmps.getD 54 undef), (a_.tmps.getD 55 undef), (a_.tmps.getD 56 undef), (a_.tmps.getD 57 undef), (a_.tmps.getD 58 undef), (a_.tmps.getD 59 undef), (a_.tmps.getD 60 undef), (a_.tmps.getD 61 undef), (a_.tmps.getD 62 undef), (a_.tmps.getD 63 undef), (a_.tmps.getD 64 undef), (a_.tmps.getD 65 undef), (a_.tmps.getD 66 undef), (a_.tmps.getD 67 undef), (a_.tmps.getD 68 undef), (a_.tmps.getD 69 undef), (a_.tmps.getD 70 undef), (a_.tmps.getD 71 undef)], defers := [] } → _ := fun a_ ha => hnext a_ W2 ⟨xs.length, xs ++ [x], _, fun n => a_.tmps.getD n undef, hidH ⟨⟨HBG.out, _, HG2.out, rfl, HR2.out⟩, List.Perm.refl _, fun h => HeapPure.Up.start h x, HF2.out.1, HF2.out.2⟩, by simp, by simp; omega, ha⟩
    exact key _ rfl
  case pass =>
    intro a' wr hJ J' hJ'
    obtain ⟨i, ys, r', u, HI, hi, hlen2, rfl⟩ := hJ
    obtain ⟨⟨hbg', v', hg', hvr', hR'⟩, hperm, hup, hF, hBl⟩ := HI.out
    have hml : (ys.map fun e => (⟨e, o⟩ : S52)).length = ys.length := List.length_map _
    obtain ⟨gr, cap, e, hgb, hgl, -⟩ := Kd.R_form hR' (by rw [hml]; omega)
    rw [hml] at e
    subst e
    obtain ⟨ad, had⟩ : ∃ ad : Addr, ad = ⟨gr, 0, none⟩ := ⟨_, rfl⟩
    rw [← had] at hg' hR' hvr'
    have HAD := hidH had
    have HG' := hidH hg'
    have HR' := hidH hR'
    have HV' := hidH hvr'
    have HUP := hidH hup
    have HNE := hidH (show g ≠ gr by intro he; exact absurd (Kd.R_ne hR' hg' (by decide)) (by rw [had, he]; simp [Value.ownBlock]))
    clear hg' hR' hvr' had hup hgb hgl hbg' hperm hF hBl HX HG HR HB HS HW
    have hcap : ys.length ≤ cap := (Kd.R_reads' HR'.out).2.1
    by_cases h0 : i = 0
    · subst h0
      go_wp2
      refine start_ (n := 20) (S := fun _ => True) (ds := []) (zqB 20 0) (by kernel_rfl) rfl rfl (trivial) (fun hHeld => ?_)
      refine zqp 0 (some 25) (zqB 20 1) (by kernel_rfl) (h := ?_)
      refine zqp 1 (some 26) (zqB 20 3) (by kernel_rfl) (h := ?_)
      refine zqp 2 (some 27) (zqB 20 7) (by kernel_rfl) (h := ?_)
      refine zqu 3 (some 28) (zqB 20 15) (by kernel_rfl) (h := ?_)
      refine zqu 4 (some 29) (zqB 20 31) (by kernel_rfl) (h := ?_)
      refine zqu 5 (some 30) (zqB 20 63) (by kernel_rfl) (h := ?_)
      refine zqu 6 (some 31) (zqB 20 127) (by kernel_rfl) (h := ?_)
      refine zqu 7 (some 32) (zqB 20 255) (by kernel_rfl) (h := ?_)
      refine zqu 8 (some 33) (zqB 20 511) (by kernel_rfl) (h := ?_)
      refine zqu 9 (some 34) (zqB 20 1023) (by kernel_rfl) (h := ?_)
      refine zqu 10 (some 35) (zqB 20 2047) (by kernel_rfl) (h := ?_)
      refine zqu 11 (some 36) (zqB 20 4095) (by kernel_rfl) (h := ?_)
      refine zqu 12 (some 37) (zqB 20 8191) (by kernel_rfl) (h := ?_)
      refine zqu 13 (some 38) (zqB 20 16383) (by kernel_rfl) (h := ?_)
      refine zqu 14 (some 39) (zqB 20 32767) (by kernel_rfl) (h := ?_)
      refine zqu 15 (some 40) (zqB 20 65535) (by kernel_rfl) (h := ?_)
      refine zqu 16 (some 41) (zqB 20 131071) (by kernel_rfl) (h := ?_)
      refine zqu 17 (some 42) (zqB 20 262143) (by kernel_rfl) (h := ?_)
      refine zqu 18 (some 43) (zqB 20 524287) (by kernel_rfl) (h := ?_)
      refine zqp 19 (some 44) (zqB 20 1048575) (by kernel_rfl) (h := ?_)
      refine done_ (by kernel_rfl) ?_
      go_wp2
      simp only [Exit.jump]
      refine bodyPost_end (results_none rfl _ _ _) rfl ?_
      obtain ⟨hA, hperm, hup, hF, hBl⟩ := HI.out
      exact ⟨rfl, r', ys, ⟨hA.1, hA.2⟩, hperm, fun h => (HUP.out h).done (.inl rfl), ⟨hF.os, hF.tape, hF.output, hF.size, hF.block, hF.row⟩⟩
    · obtain ⟨p, hp⟩ : ∃ p : Nat, p = (i - 1) / 2 := ⟨_, rfl⟩
      have e1 : Int.tdiv ((i : Int) - 1) 2 = (p : Int) := by rw [show (i : Int) - 1 = ((i - 1 : Nat) : Int) by omega, hp]; rfl
      have hpi : p < i := by omega
      have HP := hidH hp
      clear hp
      have g1 : decide ((i : Int) > 0) = true := decide_eq_true (by omega)
      have g2 : decide ((0 : Int) < (i : Int)) = true := decide_eq_true (by omega)
      have g3 : decide (0 < i) = true := decide_eq_true (by omega)
      have q1 : ((i : Int) < (ys.length : Int)) = True := eq_true (by omega)
      have q2 : ((p : Int) < (ys.length : Int)) = True := eq_true (by omega)
      have q3 : ((0 : Int) ≤ (i : Int)) = True := eq_true (by omega)
      have q4 : ((0 : Int) ≤ (p : Int)) = True := eq_true (by omega)
      have q5 : (i < ys.length) = True := eq_true hi
      have q6 : (p < ys.length) = True := eq_true (by omega)
      go_wp2
      cases hl : lessE o ys[i] ys[p] with
      | false =>
        have HL := hidH hl
        clear hl
        refine start_ (n := 20) (S := TwoS wr g (.slice (some ad) ys.length cap) (ad.add (i * 4)) (ad.add (p * 4)) o ys[i] ys[p]) (ds := []) (zqB 20 0) (by kernel_rfl) rfl rfl ((two_at HG'.out HR'.out i p hi (by omega)).drew) (fun hHeld => ?_)
        refine zqp 0 (some 25) (zqB 20 1) (by kernel_rfl) (h := ?_)
        refine zqp 1 (some 26) (zqB 20 3) (by kernel_rfl) (h := ?_)
        refine zqp 2 (some 27) (zqB 20 7) (by kernel_rfl) (h := ?_)
        refine zqp 3 (some 28) (zqB 20 15) (by kernel_rfl) (h := ?_)
        refine zqp 4 (some 29) (zqB 20 31) (by kernel_rfl) (h := ?_)
        refine zqp 5 (some 30) (zqB 20 63) (by kernel_rfl) (h := ?_)
        refine zqt 6 (some 31) (zqB 20 127) (by kernel_rfl) hHeld (h := ?_)
        refine zqp 7 (some 32) (zqB 20 255) (by kernel_rfl) (h := ?_)
        refine zqp 8 (some 33) (zqB 20 511) (by kernel_rfl) (h := ?_)
        refine zqt 9 (some 34) (zqB 20 1023) (by kernel_rfl) hHeld (h := ?_)
        refine zqp 10 (some 35) (zqB 20 2047) (by kernel_rfl) (h := ?_)
        refine zqp 11 (some 36) (zqB 20 4095) (by kernel_rfl) (h := ?_)
        refine zqp 12 (some 37) (zqB 20 8191) (by kernel_rfl) (h := ?_)
        refine zqp 13 (some 38) (zqB 20 16383) (by kernel_rfl) (h := ?_)
        refine zqt 14 (some 39) (zqB 20 32767) (by kernel_rfl) hHeld (h := ?_)
        refine zqp 15 (some 40) (zqB 20 65535) (by kernel_rfl) (h := ?_)
        refine zqp 16 (some 41) (zqB 20 131071) (by kernel_rfl) (h := ?_)
        refine zqt 17 (some 42) (zqB 20 262143) (by kernel_rfl) hHeld (h := ?_)
        refine one_ (i := 18) (N := some 43) (zqB 20 524287) rfl rfl (by kernel_rfl) (by decide) (fun K hK => ?_)
        refine goesM (.tmp 35) (.tmp 42) "haulier/heap.ahead" _ 41 _ _ _ (by rfl) rfl rfl rfl rfl (ahead_meth _ _ _) ?_
        refine (ahead_r HL.out _).mono ?_
        rintro e w1 ⟨rfl, hb⟩
        refine ⟨_, rfl, ?_⟩
        refine hK.out _ _ (TwoS.on hHeld hb) (fun hHeld => ?_)
        clear hK K hb
        refine norm_ (a' := ?_) ?_ ?_
        rotate_left
        · show Act.put _ _ _ = _
          simp only [Act.put, List.setIfInBounds_toArray, List.set_cons_zero, List.set_cons_succ, i64_w, i32_w]
          rfl
        refine zqp 19 (some 44) (zqB 20 1048575) (by kernel_rfl) (h := ?_)
        refine done_ (by kernel_rfl) ?_
        go_wp2
        simp only [Exit.jump]
        refine bodyPost_end (results_none rfl _ _ _) rfl ?_
        obtain ⟨hA, hperm, hup, hF, hBl⟩ := HI.out
        exact ⟨rfl, r', ys, hA.below hHeld.below, hperm, fun h => (HUP.out h).done (.inr (by rw [← HP.out, getD_at hi, getD_at (show p < ys.length by omega)]; exact HL.out)), hF.below hHeld.below⟩
      | true =>
        have HL := hidH hl
        clear hl
        refine start_ (n := 20) (S := TwoS wr g (.slice (some ad) ys.length cap) (ad.add (i * 4)) (ad.add (p * 4)) o ys[i] ys[p]) (ds := []) (zqB 20 0) (by kernel_rfl) rfl rfl ((two_at HG'.out HR'.out i p hi (by omega)).drew) (fun hHeld => ?_)
        refine zqp 0 (some 25) (zqB 20 1) (by kernel_rfl) (h := ?_)
        refine zqp 1 (some 26) (zqB 20 3) (by kernel_rfl) (h := ?_)
        refine zqp 2 (some 27) (zqB 20 7) (by kernel_rfl) (h := ?_)
        refine zqp 3 (some 28) (zqB 20 15) (by kernel_rfl) (h := ?_)
        refine zqp 4 (some 29) (zqB 20 31) (by kernel_rfl) (h := ?_)
        refine zqp 5 (some 30) (zqB 20 63) (by kernel_rfl) (h := ?_)
        refine zqt 6 (some 31) (zqB 20 127) (by kernel_rfl) hHeld (h := ?_)
        refine zqp 7 (some 32) (zqB 20 255) (by kernel_rfl) (h := ?_)
        refine zqp 8 (some 33) (zqB 20 511) (by kernel_rfl) (h := ?_)
        refine zqt 9 (some 34) (zqB 20 1023) (by kernel_rfl) hHeld (h := ?_)
        refine zqp 10 (some 35) (zqB 20 2047) (by kernel_rfl) (h := ?_)
        refine zqp 11 (some 36) (zqB 20 4095) (by kernel_rfl) (h := ?_)
        refine zqp 12 (some 37) (zqB 20 8191) (by kernel_rfl) (h := ?_)
        refine zqp 13 (some 38) (zqB 20 16383) (by kernel_rfl) (h := ?_)
        refine zqt 14 (some 39) (zqB 20 32767) (by kernel_rfl) hHeld (h := ?_)
        refine zqp 15 (some 40) (zqB 20 65535) (by kernel_rfl) (h := ?_)
        refine zqp 16 (some 41) (zqB 20 131071) (by kernel_rfl) (h := ?_)
        refine zqt 17 (some 42) (zqB 20 262143) (by kernel_rfl) hHeld (h := ?_)
        refine one_ (i := 18) (N := some 43) (zqB 20 524287) rfl rfl (by kernel_rfl) (by decide) (fun K hK => ?_)
        refine goesM (.tmp 35) (.tmp 42) "haulier/heap.ahead" _ 41 _ _ _ (by rfl) rfl rfl rfl rfl (ahead_meth _ _ _) ?_
        refine (ahead_r HL.out _).mono ?_
        rintro e w1 ⟨rfl, hb⟩
        refine ⟨_, rfl, ?_⟩
        refine hK.out _ _ (TwoS.on hHeld hb) (fun hHeld => ?_)
        clear hK K hb
        refine norm_ (a' := ?_) ?_ ?_
        rotate_left
        · show Act.put _ _ _ = _
          simp only [Act.put, List.setIfInBounds_toArray, List.set_cons_zero, List.set_cons_succ, i64_w, i32_w]
          rfl
        refine zqp 19 (some 44) (zqB 20 1048575) (by kernel_rfl) (h := ?_)
        refine done_ (by kernel_rfl) ?_
        go_wp2
        have hpl : p < ys.length := by omega
        have HW1 := hidH hHeld.below
        have HG5 := hidH (blk_below HG'.out hHeld.below)
        have HR5 := hidH (Kd.R_below HR'.out hHeld.below)
        clear hHeld
        refine start_ (n := 28) (S := TwoS w1 g (.slice (some ad) ys.length cap) (ad.add (i * 4)) (ad.add (p * 4)) o ys[i] ys[p]) (ds := [25, 27]) (zqB 28 0) (by kernel_rfl) rfl rfl ((two_at HG5.out HR5.out i p hi hpl).drew) (fun hHeld => ?_)
        generalize hD : w1.drew = V at hHeld ⊢
        replace HR5 := hidH (show Kd.R k52 52 V base (fun _ => True) (.slice (some ad) ys.length cap) (ys.map fun e => ⟨e, o⟩) by rw [← hD]; exact Kd.R_drew HR5.out)
        have HDV := hidH (show Below w1.heap.size w1 V by rw [← hD]; exact below_drew1 (Below.refl _ _))
        clear hD
        refine zqp 0 (some 45) (zqB 28 1) (by kernel_rfl) (h := ?_)
        refine zqp 1 (some 46) (zqB 28 3) (by kernel_rfl) (h := ?_)
        refine zqp 2 (some 47) (zqB 28 7) (by kernel_rfl) (h := ?_)
        refine zqt 3 (some 48) (zqB 28 15) (by kernel_rfl) hHeld (h := ?_)
        refine zqp 4 (some 49) (zqB 28 31) (by kernel_rfl) (h := ?_)
        refine zqp 5 (some 50) (zqB 28 63) (by kernel_rfl) (h := ?_)
        refine zqp 6 (some 51) (zqB 28 127) (by kernel_rfl) (h := ?_)
        refine zqp 7 (some 52) (zqB 28 255) (by kernel_rfl) (h := ?_)
        refine zqt 8 (some 53) (zqB 28 511) (by kernel_rfl) hHeld (h := ?_)
        refine zqp 9 (some 54) (zqB 28 1023) (by kernel_rfl) (h := ?_)
        refine zqp 10 (some 55) (zqB 28 2047) (by kernel_rfl) (h := ?_)
        refine zqp 11 (some 56) (zqB 28 4095) (by kernel_rfl) (h := ?_)
        refine zqp 12 (some 57) (zqB 28 8191) (by kernel_rfl) (h := ?_)
        refine zqt 13 (some 58) (zqB 28 16383) (by kernel_rfl) hHeld (h := ?_)
        refine zqp 14 (some 59) (zqB 28 32767) (by kernel_rfl) (h := ?_)
        refine zqp 15 (some 60) (zqB 28 65535) (by kernel_rfl) (h := ?_)
        refine zqt 16 (some 61) (zqB 28 131071) (by kernel_rfl) hHeld (h := ?_)
        refine zqp 17 (some 62) (zqB 28 262143) (by kernel_rfl) (h := ?_)
        refine zqp 18 (some 63) (zqB 28 524287) (by kernel_rfl) (h := ?_)
        refine zqp 19 (some 64) (zqB 28 1048575) (by kernel_rfl) (h := ?_)
        refine zqt 20 (some 65) (zqB 28 2097151) (by kernel_rfl) hHeld (h := ?_)
        refine zqp 21 (some 66) (zqB 28 4194303) (by kernel_rfl) (h := ?_)
        refine zqp 22 (some 67) (zqB 28 8388607) (by kernel_rfl) (h := ?_)
        refine zqt 23 (some 68) (zqB 28 16777215) (by kernel_rfl) hHeld (h := ?_)
        refine zqp 24 (some 69) (zqB 28 33554431) (by kernel_rfl) (h := ?_)
        refine last_ (i := 25) (N := none) (zqB 28 67108863) rfl rfl (by kernel_rfl) (by decide) (fun K hK => ?_)
        refine want_ (by rfl) ?_
        refine store_item 52 _ _ rfl rfl (base := base) i ys[p] rfl HAD.out rfl (by kernel_rfl) HR5.out (by simpa using hi) ?_
        intro W_ hr_ hg_
        have HR6 := hidH hr_
        have HG6 := hidH hg_
        clear hr_ hg_
        refine hK.out _ _ ?_
        clear hK K
        refine zqp 26 (some 70) (zqB 28 134217727) (by kernel_rfl) (h := ?_)
        refine last_ (i := 27) (N := none) (zqB 28 268435455) rfl rfl (by kernel_rfl) (by decide) (fun K hK => ?_)
        refine want_ (by rfl) ?_
        refine store_item 52 _ _ rfl rfl (base := base) p ys[i] rfl HAD.out rfl (by kernel_rfl) HR6.out (by simpa using hpl) ?_
        intro W_ hr_ hg_
        have HR7 := hidH hr_
        have HG7 := hidH hg_
        clear hr_ hg_
        refine hK.out _ _ ?_
        clear hK K
        refine done_ (by kernel_rfl) ?_
        go_wp2
        go_step3
        refine ⟨rfl, ?_⟩
        have hsw : (ys.set i ys[p]).set p ys[i] = HeapPure.swap ys i p := by unfold HeapPure.swap; rw [getD_at hi, getD_at hpl]
        have hr7 := HR7.out
        rw [hsw] at hr7
        have hown : (Value.slice (some ad) ys.length cap).ownBlock = some gr := by rw [HAD.out]; rfl
        obtain ⟨hA, hperm, hup, hF, hBl⟩ := HI.out
        have hr' : r' = some gr := by rw [← HV'.out]; exact hown
        subst hr'
        have hgW := blk_grown (blk_grown (blk_below HG5.out HDV.out) HG6.out (fun he => HNE.out (Option.some.inj he))) HG7.out (fun he => HNE.out (Option.some.inj he))
        have hbs : base ≤ wr.heap.size := Nat.le_trans hA.1 (Nat.le_of_lt (blk_lt HG'.out))
        have hbgr : ∀ k, some gr = some k → base ≤ k := fun k hk => by rw [← Option.some.inj hk]; exact Kd.R_base HR'.out gr hown
        have hB1 := below_then (below_then hBl hbs HW1.out) (Nat.le_trans hbs HW1.out.size) HDV.out
        have hBW := (hB1.grown HG6.out (Nat.le_trans hbs (Nat.le_trans HW1.out.size HDV.out.size)) hbgr).grown HG7.out (Nat.le_trans hbs (Nat.le_trans HW1.out.size (Nat.le_trans HDV.out.size HG6.out.size))) hbgr
        have hFW := (((hF.below HW1.out).below HDV.out).grown HG6.out).grown HG7.out
        have key : ∀ a_ : Act, a_ = { tmps := #[.pointer (some ⟨g, 0, none⟩), .agg #[.int .i64 x.f0, .int .i64 x.f1, .int .i64 x.f2, .int .i64 o], undef, .pointer (some ⟨B, 0, none⟩), .int .i64 (p : Int), (a_.tmps.getD 5 undef), (a_.tmps.getD 6 undef), (a_.tmps.getD 7 undef), (a_.tmps.getD 8 undef), (a_.tmps.getD 9 undef), (a_.tmps.getD 10 undef), (a_.tmps.getD 11 undef), (a_.tmps.getD 12 undef), (a_.tmps.getD 13 undef), (a_.tmps.getD 14 undef), (a_.tmps.getD 15 undef), (a_.tmps.getD 16 undef), (a_.tmps.getD 17 undef), (a_.tmps.getD 18 undef), (a_.tmps.getD 19 undef), (a_.tmps.getD 20 undef), (a_.tmps.getD 21 undef), (a_.tmps.getD 22 undef), (a_.tmps.getD 23 undef), (a_.tmps.getD 24 undef), (a_.tmps.getD 25 undef), (a_.tmps.getD 26 undef), (a_.tmps.getD 27 undef), (a_.tmps.getD 28 undef), (a_.tmps.getD 29 undef), (a_.tmps.getD 30 undef), (a_.tmps.getD 31 undef), (a_.tmps.getD 32 undef), (a_.tmps.getD 33 undef), (a_.tmps.getD 34 undef), (a_.tmps.getD 35 undef), (a_.tmps.getD 36 undef), (a_.tmps.getD 37 undef), (a_.tmps.getD 38 undef), (a_.tmps.getD 39 undef), (a_.tmps.getD 40 undef), (a_.tmps.getD 41 undef), (a_.tmps.getD 42 undef), (a_.tmps.getD 43 undef), (a_.tmps.getD 44 undef), (a_.tmps.getD 45 undef), (a_.tmps.getD 46 undef), (a_.tmps.getD 47 undef), (a_.tmps.getD 48 undef), (a_.tmps.getD 49 undef), (a_.tmps.getD 50 undef), (a_.tmps.getD 51 undef), (a_.tmps.getD 52 undef), (a_.tmps.getD 53 undef), (a_.tmps.getD 54 undef), (a_.tmps.getD 55 undef), (a_.tmps.getD 56 undef), (a_.tmps.getD 57 undef), (a_.tmps.getD 58 undef), (a_.tmps.getD 59 undef), (a_.tmps.getD 60 undef), (a_.tmps.getD 61 undef), (a_.tmps.getD 62 undef), (a_.tmps.getD 63 undef), (a_.tmps.getD 64 undef), (a_.tmps.getD 65 undef), (a_.tmps.getD 66 undef), (a_.tmps.getD 67 undef), (a_.tmps.getD 68 undef), (a_.tmps.getD 69 undef), (a_.tmps.getD 70 undef), (a_.tmps.getD 71 undef)], defers := [] } → J' a_ W_ := fun a_ ha => hJ' a_ W_ ⟨p, HeapPure.swap ys i p, some gr, fun n => a_.tmps.getD n undef, hidH ⟨⟨hA.1, _, hgW, hown, hr7⟩, (HeapPure.swap_perm hi hpl).trans hperm, fun h => by have hs := HeapPure.Up.step (less_strict o) (HUP.out h) hi (by omega) (by rw [← HP.out, getD_at hi, getD_at hpl]; exact HL.out); rw [← HP.out] at hs; exact hs, hFW, hBW⟩, by rw [HeapPure.swap_length]; exact hpl, by rw [HeapPure.swap_length]; exact hlen2, ha⟩ (by rw [ha]; show ((p : Int)).toNat < ((i : Int)).toNat; omega)
        exact key _ rfl

end Go.Proofs.Ytjlfejgblhgceaa.PB
