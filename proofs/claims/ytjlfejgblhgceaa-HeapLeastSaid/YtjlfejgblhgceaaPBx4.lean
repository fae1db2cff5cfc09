-- Printed for this claim by wip/tools/xprint.py over the kit's print; the contracts marked BY HAND are this session's own.
import Derived.Test.YtjlfejgblhgceaaPBx0
import Derived.Test.YtjlfejgblhgceaaPBx1
import Derived.Test.YtjlfejgblhgceaaPBx2
import Derived.Test.YtjlfejgblhgceaaPBx3
namespace Go.Proofs.Ytjlfejgblhgceaa.PB
open Go.RowKit Go.Proofs.YtjlfejgblhgceaaW.PrintWords Go.Proofs.YtjlfejgblhgceaaW.PrintLast Go.Proofs.YtjlfejgblhgceaaW.PrintMore
attribute [local go_sem] max2_int min2_int max_two min_two max_three min_three max_four min_four   -- for this text's walks alone
set_option linter.unusedVariables false
set_option linter.unusedSimpArgs false

/-! ### heap_Heap_Put: function 12, BY HAND -/
theorem Frame.pre {w W w' : World} {g : Nat} {r r' : Option Nat} (hb : Below w.heap.size w W) (h : Frame W w' g r r') : Frame w w' g r r' :=
  ⟨h.os.trans hb.os, h.tape.trans hb.tape, h.output.trans hb.output, Nat.le_trans hb.size h.size, fun k hk h1 h2 => (h.block k (Nat.lt_of_lt_of_le hk hb.size) h1 h2).trans (hb.block k hk), h.row.imp id (fun ⟨b, e, hle⟩ => ⟨b, e, Nat.le_trans hb.size hle⟩)⟩
theorem R_kept {w w1 : World} {base : Nat} {v : Value} {xs : List S52} (h : Kd.R k52 52 w base (fun _ => True) v xs) (hb : ∀ k, v.ownBlock = some k → w1.heap[k]? = w.heap[k]?) : Kd.R k52 52 w1 base (fun _ => True) v xs := by
  have h1 : Kd.R k52 52 w base (fun k => v.ownBlock = some k) v xs :=
    ⟨fun k hk => hk, h.2.imp_ (fun x cs hp => by obtain rfl := k52_openM hp; exact k52_mkM _ _ _ x)⟩
  exact Kd.R_mono (Kd.R_move h1 (fun k hk => hb k hk)) (fun _ _ => trivial)
theorem HeapAt.lt {w : World} {base g : Nat} {r : Option Nat} {o : Int} {xs : List S23} (h : HeapAt w base g r o xs) : g < w.heap.size ∧ ∀ k, r = some k → k < w.heap.size := by
  obtain ⟨h1, v, h2, h3, h4⟩ := h
  exact ⟨blk_lt h2, fun k hk => Kd.R_lt h4 k (by rw [h3]; exact hk)⟩
/-- Neither the heap's block nor its row has turned. -/
theorem HeapAt.kept {w w1 : World} {base g : Nat} {r : Option Nat} {o : Int} {xs : List S23} (h : HeapAt w base g r o xs) (hg : w1.heap[g]? = w.heap[g]?) (hr : ∀ k, r = some k → w1.heap[k]? = w.heap[k]?) : HeapAt w1 base g r o xs := by
  obtain ⟨h1, v, h2, h3, h4⟩ := h
  exact ⟨h1, v, hg.trans h2, h3, R_kept h4 (fun k hk => hr k (by rw [← h3]; exact hk))⟩
theorem HeapAt.far {W W' : World} {base g B : Nat} {r : Option Nat} {o : Int} {xs : List S23} (h : HeapAt W base g r o xs) (hfar : ∀ k, k ≠ B → W'.heap[k]? = W.heap[k]?) (hg : g ≠ B) (hr : ∀ k, r = some k → k ≠ B) : HeapAt W' base g r o xs :=
  h.kept (hfar _ hg) (fun k hk => hfar _ (hr k hk))
theorem tree_take_nil (base g : Nat) (r : Option Nat) (o : Int) (w : World) (hbase : base ≤ w.heap.size) (h : HeapAt w base g r o []) :
    Calls Try.prog 22 #[.pointer (some ⟨g, 0, none⟩)] w fun e w' => e = .returned (.tuple #[.agg #[.int .i64 0, .int .i64 0, .int .i64 0, .int .i64 0], .bool false]) ∧ HeapAt w' base g r o [] ∧ Frame w w' g r r :=
  (tree_take base g r o [] w hbase (Nat.zero_le _) h).mono fun e w' h => by
    rcases h with h | ⟨h, -⟩
    · exact h.2
    · exact absurd h (Nat.not_lt_zero _)
theorem tree_take_cons (base g : Nat) (r : Option Nat) (o : Int) (x : S23) (t : List S23) (w : World) (hbase : base ≤ w.heap.size) (hlen : t.length < 200000) (h : HeapAt w base g r o (x :: t)) :
    Calls Try.prog 22 #[.pointer (some ⟨g, 0, none⟩)] w fun e w' => ∃ ys, e = .returned (.tuple #[.agg #[.int .i64 x.f0, .int .i64 x.f1, .int .i64 x.f2, .int .i64 o], .bool true]) ∧ HeapAt w' base g r o ys ∧ ys.Perm t ∧ (HeapPure.Ord (lessE o) (x :: t) → HeapPure.Ord (lessE o) ys) ∧ Frame w w' g r r :=
  (tree_take base g r o (x :: t) w hbase (by rw [List.length_cons]; omega) h).mono fun e w' h => by
    rcases h with ⟨h, -⟩ | ⟨hpos, ys, h1, h2, h3, h4, h5⟩
    · cases h
    · exact ⟨ys, h1, h2, h3, h4, h5⟩
/-- Put, at a heap that is one. -/
theorem heap_put (base g : Nat) (r : Option Nat) (o : Int) (xs : List S23) (x : S23) (w : World) (hbase : base ≤ w.heap.size) (hlen : xs.length ≤ 100000) (h : HeapAt w base g r o xs) :
    Calls Try.prog 12 #[.pointer (some ⟨g, 0, none⟩), .agg #[.int .i64 x.f0, .int .i64 x.f1, .int .i64 x.f2]] w fun e w' => e = .returned (.tuple #[]) ∧ ∃ r' ys, HeapAt w' base g r' o ys ∧ ys.Perm (xs ++ [x]) ∧ (HeapPure.Ord (lessE o) xs → HeapPure.Ord (lessE o) ys) ∧ Frame w w' g r r' := by
  obtain ⟨W, hW⟩ : ∃ W, W = w.alloc (.cells #[.int .i64 x.f0, .int .i64 x.f1, .int .i64 x.f2] 23) := ⟨_, rfl⟩
  obtain ⟨B, hB⟩ : ∃ B, B = w.heap.size := ⟨_, rfl⟩
  have HX := hidH (show W.heap[B]? = some (.cells #[.int .i64 x.f0, .int .i64 x.f1, .int .i64 x.f2] 23 (0, 0)) by rw [hW, hB]; exact blk_new _ _)
  have HB := hidH (show Below w.heap.size w W by rw [hW]; exact below_alloc (Below.refl _ w) _)
  have HA := hidH (h.below HB.out)
  obtain ⟨-, v, hg, -, -⟩ := HA.out
  have hc1 := blk_cell hg 1
  clear h
  go_enter Try.func12, Try.ntmps12
  go_wp2
  rw [← hW, ← hB]
  clear hW hB
  refine start_ (n := 10) (S := fun w' => w'.cell? ⟨B, 0, none⟩ = some (.int .i64 x.f0) ∧ w'.cell? ⟨B, 1, none⟩ = some (.int .i64 x.f1) ∧ w'.cell? ⟨B, 2, none⟩ = some (.int .i64 x.f2) ∧ w'.cell? ⟨g, 1, none⟩ = some (.int .i64 o)) (ds := [9]) (zqB 10 0) (by kernel_rfl) rfl rfl (⟨blk_cell HX.out 0, blk_cell HX.out 1, blk_cell HX.out 2, hc1⟩) (fun hHeld => ?_)
  refine zqp 0 (some 6) (zqB 10 1) (by kernel_rfl) (h := ?_)
  refine zqp 1 (some 7) (zqB 10 3) (by kernel_rfl) (h := ?_)
  refine zqp 2 (some 8) (zqB 10 7) (by kernel_rfl) (h := ?_)
  refine zqt 3 (some 9) (zqB 10 15) (by kernel_rfl) hHeld (h := ?_)
  refine zqp 4 (some 10) (zqB 10 31) (by kernel_rfl) (h := ?_)
  refine zqp 5 (some 11) (zqB 10 63) (by kernel_rfl) (h := ?_)
  refine zqp 6 (some 12) (zqB 10 127) (by kernel_rfl) (h := ?_)
  refine zqt 7 (some 13) (zqB 10 255) (by kernel_rfl) hHeld (h := ?_)
  refine zqp 8 (some 14) (zqB 10 511) (by kernel_rfl) (h := ?_)
  refine last_ (i := 9) (N := some 15) (zqB 10 1023) rfl rfl (by kernel_rfl) (by decide) (fun K hK => ?_)
  refine goes_ Try.func21 (by kernel_rfl) rfl #[.pointer (some ⟨g, 0, none⟩), .agg #[.int .i64 x.f0, .int .i64 x.f1, .int .i64 x.f2, .int .i64 o]] (by rfl) rfl rfl (by first | rfl | (simp only [List.map_toArray, List.map_cons, List.map_nil]; rfl)) ?_
  refine (tree_put base g r o xs x W.drew (Nat.le_trans hbase HB.out.size) hlen (HA.out.below (below_drew1 (Below.refl _ _)))).mono ?_
  rintro e w1 ⟨rfl, r', ys, h1, h2, h3, h4⟩
  have H1 := hidH h1
  have H2 := hidH h2
  have H3 := hidH h3
  have H4 := hidH (Frame.pre (below_drew1 HB.out) h4)
  clear h1 h2 h3 h4
  refine ⟨_, rfl, ?_⟩
  refine hK.out _ _ ?_
  clear hK K
  refine norm_ (a' := ?_) ?_ ?_
  rotate_left
  · show Act.put _ _ _ = _
    simp only [Act.put, List.setIfInBounds_toArray, List.set_cons_zero, List.set_cons_succ, i64_w, i32_w]
    rfl
  refine done_ (by kernel_rfl) ?_
  go_wp2
  refine bodyPost_end (results_none rfl _ _ _) rfl ?_
  exact ⟨rfl, r', ys, H1.out, H2.out, H3.out, H4.out⟩
/-- .. at none. -/
theorem heap_put_none (x : S23) (w : World) : Calls Try.prog 12 #[.pointer none, .agg #[.int .i64 x.f0, .int .i64 x.f1, .int .i64 x.f2]] w fun e w' => e = .returned (.tuple #[]) ∧ Below w.heap.size w w' := by
  go_enter Try.func12, Try.ntmps12
  go_wp2
  refine bodyPost_end (results_none rfl _ _ _) rfl ?_
  exact ⟨rfl, below_alloc (Below.refl _ _) _⟩
theorem heap_take_nil (base g : Nat) (r : Option Nat) (o : Int) (w : World) (hbase : base ≤ w.heap.size) (h : HeapAt w base g r o []) :
    Calls Try.prog 13 #[.pointer (some ⟨g, 0, none⟩)] w fun e w' => e = .returned (.tuple #[.agg #[.int .i64 0, .int .i64 0, .int .i64 0], .bool false]) ∧ HeapAt w' base g r o [] ∧ Frame w w' g r r := by
  have HA := hidH (h.below (below_alloc (Below.refl _ w) (.cells #[.int .i64 0, .int .i64 0, .int .i64 0] 23)))
  have HL := hidH h.lt
  clear h
  go_enter Try.func13, Try.ntmps13
  go_wp2_with (first | (go_at_call 22; (with_reducible refine (tree_take_nil base g r o _ (by rw [World.size_alloc]; omega) HA.out).mono ?_); rintro e w1 ⟨rfl, h1, h2⟩; have H1 := hidH h1; have H2 := hidH h2; have HX := hidH ((h2.block w.heap.size (by rw [World.size_alloc]; omega) (by have := HL.out.1; omega) (fun e => Nat.lt_irrefl _ (HL.out.2 _ e.symm))).trans (blk_new _ _)); clear h1 h2) | ((with_reducible refine gate_store 23 2 17 rfl ?_); refine zqv 23 _ _ 0 3 #[.int .i64 0, .int .i64 0, .int .i64 0] (blk_alloc HX.out _) rfl rfl rfl rfl rfl rfl (by rfl) (by kernel_rfl) (by exact Nat.le_of_ble_eq_true rfl) (by rfl) ?_; intro wF hf hbel hfar; have HF := hidH hf; have HBE := hidH hbel; have HFE := hidH hfar; clear hf hbel hfar))
  refine bodyPost_ret (results_ct rfl _ _ w.heap.size _ _ _ _ rfl HF.out Try.underlying23 rfl (by kernel_rfl)) rfl ?_
  have hl := HL.out
  exact ⟨rfl, (H1.out.below (below_alloc (Below.refl _ _) _)).far HFE.out (by omega) (fun k hk => by have := hl.2 k hk; omega), (((Frame.pre (below_alloc (Below.refl _ w) _) H2.out).below (below_alloc (Below.refl _ _) _)).far HBE.out HFE.out (Nat.le_refl _))⟩
theorem heap_take_cons (base g : Nat) (r : Option Nat) (o : Int) (x : S23) (t : List S23) (w : World) (hbase : base ≤ w.heap.size) (hlen : t.length < 200000) (h : HeapAt w base g r o (x :: t)) :
    Calls Try.prog 13 #[.pointer (some ⟨g, 0, none⟩)] w fun e w' => ∃ ys, e = .returned (.tuple #[.agg #[.int .i64 x.f0, .int .i64 x.f1, .int .i64 x.f2], .bool true]) ∧ HeapAt w' base g r o ys ∧ ys.Perm t ∧ (HeapPure.Ord (lessE o) (x :: t) → HeapPure.Ord (lessE o) ys) ∧ Frame w w' g r r := by
  have HA := hidH (h.below (below_alloc (Below.refl _ w) (.cells #[.int .i64 0, .int .i64 0, .int .i64 0] 23)))
  have HL := hidH h.lt
  clear h
  go_enter Try.func13, Try.ntmps13
  go_wp2_with (first | (go_at_call 22; (with_reducible refine (tree_take_cons base g r o x t _ (by rw [World.size_alloc]; omega) hlen HA.out).mono ?_); rintro e w1 ⟨ys, rfl, h1, hp, ho, h2⟩; have H1 := hidH h1; have H2 := hidH h2; have H3 := hidH hp; have H4 := hidH ho; have HX := hidH ((h2.block w.heap.size (by rw [World.size_alloc]; omega) (by have := HL.out.1; omega) (fun e => Nat.lt_irrefl _ (HL.out.2 _ e.symm))).trans (blk_new _ _)); have hsz1 : w.heap.size < w1.heap.size := blk_lt HX.out; clear h1 h2 hp ho) |
    ((with_reducible refine gate_store 52 4 14 rfl ?_); refine zqv 52 _ _ 0 4 #[.int .i64 x.f0, .int .i64 x.f1, .int .i64 x.f2, .int .i64 o] (blk_new _ _) rfl rfl rfl rfl rfl rfl (by rfl) (by kernel_rfl) (by exact Nat.le_of_ble_eq_true rfl) (by rfl) ?_; intro wE hf4 hbel4 hfar4; have HX4 := hidH ((hfar4 w.heap.size (by omega)).trans (blk_alloc HX.out _)); have HE4 := hidH hf4; have HBE4 := hidH hbel4; have HFE4 := hidH hfar4; obtain ⟨x0, x1, x2, x3, -⟩ := zqz4 hf4; clear hf4 hbel4 hfar4) |
    ((with_reducible refine gate_store 23 2 17 rfl ?_); refine zqv 23 _ _ 0 3 #[.int .i64 x.f0, .int .i64 x.f1, .int .i64 x.f2] HX4.out rfl rfl rfl rfl rfl rfl (by rfl) (by kernel_rfl) (by exact Nat.le_of_ble_eq_true rfl) (by rfl) ?_; intro wF hf hbel hfar; have HF := hidH hf; have HBE := hidH hbel; have HFE := hidH hfar; clear hf hbel hfar))
  refine bodyPost_ret (results_ct rfl _ _ w.heap.size _ _ _ _ rfl HF.out Try.underlying23 rfl (by kernel_rfl)) rfl ?_
  have hl := HL.out
  exact ⟨ys, rfl, ((H1.out.below (below_alloc (Below.refl _ _) _)).far HFE4.out (by omega) (fun k hk => by have := hl.2 k hk; omega)).far HFE.out (by omega) (fun k hk => by have := hl.2 k hk; omega), H3.out, H4.out, (((Frame.pre (below_alloc (Below.refl _ w) _) H2.out).below (below_alloc (Below.refl _ _) _)).far HBE4.out HFE4.out (by omega)).far HBE.out HFE.out (Nat.le_refl _)⟩
theorem heap_take_none (w : World) : Calls Try.prog 13 #[.pointer none] w fun e w' => e = .returned (.tuple #[.agg #[.int .i64 0, .int .i64 0, .int .i64 0], .bool false]) ∧ Below w.heap.size w w' := by
  go_enter Try.func13, Try.ntmps13
  go_wp2
  refine bodyPost_ret (results_ct rfl _ _ w.heap.size _ _ _ _ rfl (blk_new _ _) Try.underlying23 rfl (by kernel_rfl)) rfl ?_
  exact ⟨rfl, below_alloc (Below.refl _ _) _⟩
theorem heap_len (base g : Nat) (r : Option Nat) (o : Int) (xs : List S23) (w : World) (h : HeapAt w base g r o xs) : Calls Try.prog 16 #[.pointer (some ⟨g, 0, none⟩)] w fun e w' => e = .returned (.int .i64 (xs.length : Int)) ∧ w' = w := by
  obtain ⟨-, v, hg, -, hR⟩ := h
  obtain ⟨A, c, rfl⟩ := Kd.R_slice hR
  rw [List.length_map] at hg
  have hc0 := blk_cell hg 0
  go_enter Try.func16, Try.ntmps16
  go_wp2
  go_ret
  exact ⟨rfl, rfl⟩
theorem heap_len_none (w : World) : Calls Try.prog 16 #[.pointer none] w fun e w' => e = .returned (.int .i64 0) ∧ w' = w := by
  go_enter Try.func16, Try.ntmps16
  go_wp2
  go_ret
  exact ⟨rfl, rfl⟩
theorem heap_least_none (w : World) : Calls Try.prog 17 #[.pointer none] w fun e w' => e = .returned (.int .i64 1152921504606846976) ∧ Below w.heap.size w w' := by
  go_enter Try.func17, Try.ntmps17
  go_wp2_with (go_at_call 16; (with_reducible refine (heap_len_none _).mono ?_); rintro e w1 ⟨rfl, e_⟩; subst e_)
  go_ret
  exact ⟨rfl, Below.refl _ _⟩
/-- The least bound of those in a row. -/
def leastB : List S23 → Int
  | [] => 1152921504606846976
  | x :: t => t.foldl (fun n e => if e.f0 < n then e.f0 else n) x.f0
def foldB (x : Int) (l : List S23) : Int := l.foldl (fun n e => if e.f0 < n then e.f0 else n) x
theorem heap_least (base g : Nat) (r : Option Nat) (o : Int) (xs : List S23) (w : World) (hlen : xs.length ≤ 200000) (h : HeapAt w base g r o xs) : Calls Try.prog 17 #[.pointer (some ⟨g, 0, none⟩)] w fun e w' => e = .returned (.int .i64 (leastB xs)) ∧ Below w.heap.size w w' := by
  match xs, h with
  | [], h =>
    have HA := hidH h
    clear h
    go_enter Try.func17, Try.ntmps17
    go_wp2_with (go_at_call 16; (with_reducible refine (heap_len base g r o _ _ HA.out).mono ?_); rintro e w1 ⟨rfl, e_⟩; subst e_)
    go_ret
    exact ⟨rfl, Below.refl _ _⟩
  | x :: t, h =>
    have HA := hidH h
    obtain ⟨-, v, hg, hvr, hR⟩ := h
    have hml : ((x :: t).map fun e => (⟨e, o⟩ : S52)).length = (x :: t).length := List.length_map _
    obtain ⟨gr, cap, ev, hgb, hgl, -⟩ := Kd.R_form hR (by rw [hml]; exact Nat.zero_lt_succ _)
    rw [hml] at ev
    subst ev
    obtain ⟨ad, had⟩ : ∃ ad : Addr, ad = ⟨gr, 0, none⟩ := ⟨_, rfl⟩
    obtain ⟨xs, hxs⟩ : ∃ xs, xs = x :: t := ⟨_, rfl⟩
    rw [← had, ← hxs] at hg hR
    rw [← hxs] at HA hlen
    have hpos : 0 < xs.length := by rw [hxs]; exact Nat.zero_lt_succ _
    have HR := hidH hR
    have HAD := hidH had
    have HXS := hidH hxs
    have hc0 := blk_cell hg 0
    have hx0 : w.cell? ad = some (.int .i64 xs[0].f0) := by
      have e_ := (item_at hR 0 (by rw [List.length_map]; exact hpos)).1
      rwa [had, add_at, Nat.zero_mul, Nat.add_zero, ← had, List.getElem_map] at e_
    clear hg hvr hR had hgb hgl hml hxs
    have z1 : ((xs.length : Int) = 0) = False := eq_false (by omega)
    have z2 : (xs.length = 0) = False := eq_false (by omega)
    have z3 : ((xs.length : Int) == 0) = false := beq_eq_false_iff_ne.2 (by omega)
    have z4 : (0 < xs.length) = True := eq_true hpos
    go_enter Try.func17, Try.ntmps17
    go_wp2_with (go_at_call 16; (with_reducible refine (heap_len base g r o _ _ HA.out).mono ?_); rintro e w1 ⟨rfl, e_⟩; subst e_)
    go_loopg [3, 24] xs.length (fun kq v3 v24 wr => ∃ (i : Nat), Hid (kq = xs.length - i) ∧ v3 = .int .i64 (foldB xs[0].f0 (xs.take i)) ∧ v24 = .int .i64 (i : Int) ∧ i ≤ xs.length ∧ Hid (Below w1.heap.size w1 wr))
    case atStart => exact ⟨0, hidH rfl, rfl, rfl, by omega, hidH (Below.refl _ _)⟩
    case round =>
      obtain ⟨i, HI, rfl, rfl, hi, HB⟩ := hrel
      by_cases hlt : i < xs.length
      · have t1 : decide ((i : Int) < (xs.length : Int)) = true := decide_eq_true (by omega)
        have t1n : decide (i < xs.length) = true := decide_eq_true hlt
        have q1 : ((i : Int) < (xs.length : Int)) = True := eq_true (by omega)
        have q2 : ((0 : Int) ≤ (i : Int)) = True := eq_true (by omega)
        have q3 : (i < xs.length) = True := eq_true hlt
        obtain ⟨x0, x1, x2, x3⟩ := item_at (Kd.R_below HR.out HB.out) i (by rw [List.length_map]; exact hlt)
        simp only [List.getElem_map] at x0 x1 x2 x3
        have HN : Hid (foldB xs[0].f0 (xs.take (i + 1)) = if xs[i].f0 < foldB xs[0].f0 (xs.take i) then xs[i].f0 else foldB xs[0].f0 (xs.take i)) := hidH (by rw [List.take_succ_eq_append_getElem hlt]; unfold foldB; rw [List.foldl_append]; rfl)
        obtain ⟨n_, hn_⟩ : ∃ n_, n_ = foldB xs[0].f0 (xs.take i) := ⟨_, rfl⟩
        rw [← hn_] at HN ⊢
        clear hn_
        go_wp2
        · go_roundg (xs.length - (i + 1))
          case measure => have := HI.out; omega
          case rel => exact ⟨i + 1, hidH rfl, by rw [HN.out, if_pos (by assumption)], by go_num, by omega, hidH (below_alloc HB.out _)⟩
        · go_roundg (xs.length - (i + 1))
          case measure => have := HI.out; omega
          case rel => exact ⟨i + 1, hidH rfl, by rw [HN.out, if_neg (by omega)], by go_num, by omega, hidH (below_alloc HB.out _)⟩
      · have t1 : decide ((i : Int) < (xs.length : Int)) = false := decide_eq_false (by omega)
        have t1n : decide (i < xs.length) = false := decide_eq_false hlt
        have HN : Hid (foldB xs[0].f0 (xs.take i) = leastB (x :: t)) := hidH (by
          rw [List.take_of_length_le (by omega)]
          have hx := HXS.out
          subst hx
          show List.foldl _ (if x.f0 < x.f0 then x.f0 else x.f0) t = _
          rw [ite_self]
          rfl)
        rw [HN.out]
        go_wp2
        go_ret
        exact ⟨rfl, HB.out⟩

/-! ### haulierref03_Heap_Put: function 14, BY HAND -/
theorem info_entry : (Try.prog.info? 23).map (fun i => (i.zero, i.size, i.bytes)) = some (some (.agg #[.int .i64 0, .int .i64 0, .int .i64 0]), 3, 24) := by kernel_rfl
/-- Nothing but the heap's block and its row has turned; a row that is another one is new. -/
structure Frm (w w' : World) (g : Nat) (r r' : Option Nat) : Prop where
  os : w'.os = w.os
  tape : w'.tape = w.tape
  output : w'.output = w.output
  size : w.heap.size ≤ w'.heap.size
  block : ∀ k, k < w.heap.size → k ≠ g → some k ≠ r → w'.heap[k]? = w.heap[k]?
  row : ∀ b, r' = some b → r = some b ∨ w.heap.size ≤ b
theorem Frame.frm {w w' : World} {g : Nat} {r r' : Option Nat} (h : Frame w w' g r r') : Frm w w' g r r' :=
  ⟨h.os, h.tape, h.output, h.size, h.block, fun b hb => by
    rcases h.row with e | ⟨b', e, hle⟩
    · exact .inl (by rw [← e]; exact hb)
    · rw [e] at hb
      exact .inr (by rw [← Option.some.inj hb]; exact hle)⟩
theorem Frm.refl (w : World) (g : Nat) (r : Option Nat) : Frm w w g r r := ⟨rfl, rfl, rfl, Nat.le_refl _, fun _ _ _ _ => rfl, fun _ h => .inl h⟩
theorem Frm.below {w W W' : World} {g : Nat} {r r' : Option Nat} (h : Frm w W g r r') (hb : Below W.heap.size W W') : Frm w W' g r r' :=
  ⟨hb.os.trans h.os, hb.tape.trans h.tape, hb.output.trans h.output, Nat.le_trans h.size hb.size, fun k hk h1 h2 => (hb.block k (Nat.lt_of_lt_of_le hk h.size)).trans (h.block k hk h1 h2), h.row⟩
theorem Frm.far {w W W' : World} {g : Nat} {r r' : Option Nat} {B : Nat} (h : Frm w W g r r') (hbel : ∀ b w0, Below b w0 W → b ≤ B → Below b w0 W') (hfar : ∀ k, k ≠ B → W'.heap[k]? = W.heap[k]?) (hB : w.heap.size ≤ B) : Frm w W' g r r' := by
  have hb := hbel w.heap.size W (Below.refl _ _) hB
  exact ⟨hb.os.trans h.os, hb.tape.trans h.tape, hb.output.trans h.output, Nat.le_trans h.size hb.size, fun k hk h1 h2 => (hfar k (by omega)).trans (h.block k hk h1 h2), h.row⟩
/-- The document's heap in block g: its row's block is r, its order o. -/
def RefAt (w : World) (base g : Nat) (r : Option Nat) (o : Int) (xs : List S23) : Prop :=
  base ≤ g ∧ ∃ v, w.heap[g]? = some (.cells #[.int .i64 o, v] 37 (0, 0)) ∧ v.ownBlock = r ∧ Kd.R k23 23 w base (fun _ => True) v xs
theorem RE_kept {w w1 : World} {base : Nat} {v : Value} {xs : List S23} (h : Kd.R k23 23 w base (fun _ => True) v xs) (hb : ∀ k, v.ownBlock = some k → w1.heap[k]? = w.heap[k]?) : Kd.R k23 23 w1 base (fun _ => True) v xs := by
  have h1 : Kd.R k23 23 w base (fun k => v.ownBlock = some k) v xs :=
    ⟨fun k hk => hk, h.2.imp_ (fun x cs hp => by obtain rfl := k23_openM hp; exact k23_mkM _ _ _ x)⟩
  exact Kd.R_mono (Kd.R_move h1 (fun k hk => hb k hk)) (fun _ _ => trivial)
theorem RefAt.lt {w : World} {base g : Nat} {r : Option Nat} {o : Int} {xs : List S23} (h : RefAt w base g r o xs) : g < w.heap.size ∧ ∀ k, r = some k → k < w.heap.size := by
  obtain ⟨h1, v, h2, h3, h4⟩ := h
  exact ⟨blk_lt h2, fun k hk => Kd.R_lt h4 k (by rw [h3]; exact hk)⟩
theorem RefAt.kept {w w1 : World} {base g : Nat} {r : Option Nat} {o : Int} {xs : List S23} (h : RefAt w base g r o xs) (hg : w1.heap[g]? = w.heap[g]?) (hr : ∀ k, r = some k → w1.heap[k]? = w.heap[k]?) : RefAt w1 base g r o xs := by
  obtain ⟨h1, v, h2, h3, h4⟩ := h
  exact ⟨h1, v, hg.trans h2, h3, RE_kept h4 (fun k hk => hr k (by rw [← h3]; exact hk))⟩
theorem RefAt.below {W W' : World} {base g : Nat} {r : Option Nat} {o : Int} {xs : List S23} (h : RefAt W base g r o xs) (hb : Below W.heap.size W W') : RefAt W' base g r o xs :=
  h.kept (hb.block _ h.lt.1) (fun k hk => hb.block _ (h.lt.2 k hk))
/-- Element i of a row of entries: its cells. -/
theorem entry_at {w : World} {base n cap : Nat} {ok : Nat → Prop} {ad : Addr} {xs : List S23} (h : Kd.R k23 23 w base ok (.slice (some ad) n cap) xs) (i : Nat) (hi : i < xs.length) :
    w.cell? (ad.add (i * 3)) = some (.int .i64 xs[i].f0) ∧ w.cell? ⟨(ad.add (i * 3)).block, (ad.add (i * 3)).off + 1, none⟩ = some (.int .i64 xs[i].f1) ∧ w.cell? ⟨(ad.add (i * 3)).block, (ad.add (i * 3)).off + 2, none⟩ = some (.int .i64 xs[i].f2) := by
  have hn := (Kd.R_reads' h).1
  obtain ⟨c, hcl, hM, hcc⟩ := Kd.R_get h z23 (i : Int) (by omega) (by omega)
  have hx : xs.getD (i : Int).toNat z23 = xs[i] := by rw [Int.toNat_natCast]; simp [List.getD, List.getElem?_eq_getElem hi]
  rw [hx] at hM
  rw [Int.toNat_natCast] at hcc
  obtain rfl := k23_openM hM
  have hc : ∀ j u, _ → w.cell? (ad.add (i * 3 + j)) = some u := hcc
  exact ⟨hc 0 _ rfl, by rw [← add_field _ _ 1 (by omega)]; exact hc 1 _ rfl, by rw [← add_field _ _ 2 (by omega)]; exact hc 2 _ rfl⟩
def TwoR (wr : World) (g : Nat) (o : Int) (v : Value) (p q : Addr) (a b : S23) (w' : World) : Prop := w'.cell? ⟨g, 0, none⟩ = some (.int .i64 o) ∧ w'.cell? ⟨g, 1, none⟩ = some v ∧ w'.cell? p = some (.int .i64 a.f0) ∧ w'.cell? ⟨p.block, p.off + 1, none⟩ = some (.int .i64 a.f1) ∧ w'.cell? ⟨p.block, p.off + 2, none⟩ = some (.int .i64 a.f2) ∧ w'.cell? q = some (.int .i64 b.f0) ∧ w'.cell? ⟨q.block, q.off + 1, none⟩ = some (.int .i64 b.f1) ∧ w'.cell? ⟨q.block, q.off + 2, none⟩ = some (.int .i64 b.f2) ∧ Below wr.heap.size wr w'
theorem TwoR.on {wr W W' : World} {g : Nat} {v : Value} {p q : Addr} {o : Int} {a b : S23} (h : TwoR wr g o v p q a b W) (hb : Below W.heap.size W W') : TwoR wr g o v p q a b W' := by
  obtain ⟨x0, x1, x2, x3, x4, x5, x6, x7, hB⟩ := h
  exact ⟨pw_cell_below hb x0, pw_cell_below hb x1, pw_cell_below hb x2, pw_cell_below hb x3, pw_cell_below hb x4, pw_cell_below hb x5, pw_cell_below hb x6, pw_cell_below hb x7, below_step hB hb⟩
theorem TwoR.at_ {w : World} {base g n cap : Nat} {o : Int} {ad : Addr} {xs : List S23} (hg : w.heap[g]? = some (.cells #[.int .i64 o, .slice (some ad) n cap] 37 (0, 0))) (h : Kd.R k23 23 w base (fun _ => True) (.slice (some ad) n cap) xs) (i j : Nat) (hi : i < xs.length) (hj : j < xs.length) :
    TwoR w g o (.slice (some ad) n cap) (ad.add (i * 3)) (ad.add (j * 3)) xs[i] xs[j] w.drew := by
  obtain ⟨a0, a1, a2⟩ := entry_at h i hi
  obtain ⟨b0, b1, b2⟩ := entry_at h j hj
  exact TwoR.on ⟨blk_cell hg 0, blk_cell hg 1, a0, a1, a2, b0, b1, b2, Below.refl _ _⟩ (below_drew1 (Below.refl _ _))
theorem ref_less_eq (o : Int) (a b : S23) : haulierref03_Less.f o a.f0 a.f1 a.f2 b.f0 b.f1 b.f2 = some (lessE o a b) := by
  unfold haulierref03_Less.f lessE
  have key : ∀ p q : Int, (p < q ∧ (p == q) = false) ∨ (p = q ∧ (p == q) = true) ∨ (q < p ∧ (p == q) = false) := by
    intro p q
    rcases Int.lt_trichotomy p q with h | h | h
    · exact .inl ⟨h, by simp; omega⟩
    · subst h; exact .inr (.inl ⟨rfl, by simp⟩)
    · exact .inr (.inr ⟨h, by simp; omega⟩)
  have one : ∀ (p q : Int) (y : Bool), (if p < q then some true else if p = q then some y else some false) = some (decide (p < q) || (p == q && y)) := by
    intro p q y
    rcases key p q with ⟨h, e⟩ | ⟨h, e⟩ | ⟨h, e⟩
    · rw [if_pos h, decide_eq_true h]; rfl
    · rw [if_neg (by omega), if_pos h, e, decide_eq_false (by omega)]; rfl
    · rw [if_neg (by omega), if_neg (by omega), e, decide_eq_false (by omega)]; rfl
  have oneg : ∀ (p q : Int) (y : Bool), (if p > q then some true else if p = q then some y else some false) = some (decide (p > q) || (p == q && y)) := by
    intro p q y
    rcases key p q with ⟨h, e⟩ | ⟨h, e⟩ | ⟨h, e⟩
    · rw [if_neg (by omega), if_neg (by omega), e, decide_eq_false (by omega)]; rfl
    · rw [if_neg (by omega), if_pos h, e, decide_eq_false (by omega)]; rfl
    · rw [if_pos h, decide_eq_true h]; rfl
  simp only [one, oneg]
  split
  · rfl
  · split <;> rfl
theorem ref_put (base g : Nat) (r : Option Nat) (o : Int) (xs : List S23) (x : S23) (w : World) (hbase : base ≤ w.heap.size) (hlen : xs.length ≤ 100000) (h : RefAt w base g r o xs) :
    Calls Try.prog 14 #[.pointer (some ⟨g, 0, none⟩), .agg #[.int .i64 x.f0, .int .i64 x.f1, .int .i64 x.f2]] w fun e w' => e = .returned (.tuple #[]) ∧ ∃ r', RefAt w' base g r' o (xs ++ [x]) ∧ Frm w w' g r r' := by
  obtain ⟨hbg, v, hg, hvr, hR⟩ := h
  obtain ⟨W, hW⟩ : ∃ W, W = w.alloc (.cells #[.int .i64 x.f0, .int .i64 x.f1, .int .i64 x.f2] 23) := ⟨_, rfl⟩
  obtain ⟨B, hB⟩ : ∃ B, B = w.heap.size := ⟨_, rfl⟩
  have HX := hidH (show W.heap[B]? = some (.cells #[.int .i64 x.f0, .int .i64 x.f1, .int .i64 x.f2] 23 (0, 0)) by rw [hW, hB]; exact blk_new _ _)
  have HG := hidH (show W.heap[g]? = some (.cells #[.int .i64 o, v] 37 (0, 0)) by rw [hW]; exact blk_alloc hg _)
  have HR := hidH (show Kd.R k23 23 W base (fun _ => True) v xs by rw [hW]; exact Kd.R_alloc hR _)
  have HB := hidH (show Below w.heap.size w W by rw [hW]; exact below_alloc (Below.refl _ w) _)
  have HS := hidH (show base ≤ W.heap.size from Nat.le_trans hbase HB.out.size)
  have HVR := hidH hvr
  have HBG := hidH hbg
  clear hg hvr hR hbg hbase
  go_enter Try.func14, Try.ntmps14
  go_wp2
  rw [← hW, ← hB]
  clear hW hB
  refine start_ (n := 11) (S := fun w' => w'.cell? ⟨g, 1, none⟩ = some v ∧ w'.cell? ⟨B, 0, none⟩ = some (.int .i64 x.f0) ∧ w'.cell? ⟨B, 1, none⟩ = some (.int .i64 x.f1) ∧ w'.cell? ⟨B, 2, none⟩ = some (.int .i64 x.f2)) (ds := [7, 10]) (zqB 11 0) (by kernel_rfl) rfl rfl (⟨(blk_cell HG.out 1), (blk_cell HX.out 0), (blk_cell HX.out 1), (blk_cell HX.out 2)⟩) (fun hHeld => ?_)
  generalize hD : W.drew = V at hHeld ⊢
  replace HG := hidH (show V.heap[g]? = some (.cells #[.int .i64 o, v] 37 (0, 0)) by rw [← hD]; exact blk_drew HG.out)
  replace HR := hidH (show Kd.R k23 23 V base (fun _ => True) v xs by rw [← hD]; exact Kd.R_drew HR.out)
  have HSV := hidH (show base ≤ V.heap.size by rw [← hD]; exact HS.out)
  have HDV := hidH (show Below W.heap.size W V by rw [← hD]; exact below_drew1 (Below.refl _ _))
  clear hD HS
  refine zqp 0 (some 4) (zqB 11 1) (by kernel_rfl) (h := ?_)
  refine zqp 1 (some 5) (zqB 11 3) (by kernel_rfl) (h := ?_)
  refine zqp 2 (some 6) (zqB 11 7) (by kernel_rfl) (h := ?_)
  refine zqp 3 (some 7) (zqB 11 15) (by kernel_rfl) (h := ?_)
  refine zqt 4 (some 8) (zqB 11 31) (by kernel_rfl) hHeld (h := ?_)
  refine zqt 5 (some 9) (zqB 11 63) (by kernel_rfl) hHeld (h := ?_)
  refine one_ (i := 6) (N := some 10) (zqB 11 127) rfl rfl (by kernel_rfl) (by decide) (fun K hK => ?_)
  refine value_ (w1 := ?_) (v := ?_) (by rfl) rfl ?_ ?_
  rotate_left 2
  · go_simp
    constructor
    · rfl
    · rfl
  refine hK.out _ _ ⟨(World.cell?_alloc_lt _ _ _ (World.block_lt_of_cell? _ _ hHeld.1)).trans hHeld.1, (World.cell?_alloc_lt _ _ _ (World.block_lt_of_cell? _ _ hHeld.2.1)).trans hHeld.2.1, (World.cell?_alloc_lt _ _ _ (World.block_lt_of_cell? _ _ hHeld.2.2.1)).trans hHeld.2.2.1, (World.cell?_alloc_lt _ _ _ (World.block_lt_of_cell? _ _ hHeld.2.2.2)).trans hHeld.2.2.2⟩ (fun hHeld => ?_)
  clear hK K
  refine norm_ (a' := ?_) ?_ ?_
  rotate_left
  · show Act.put _ _ _ = _
    simp only [Act.put, List.setIfInBounds_toArray, List.set_cons_zero, List.set_cons_succ, i64_w, i32_w]
    rfl
  refine last_ (i := 7) (N := some 11) (zqB 11 255) rfl rfl (by kernel_rfl) (by decide) (fun K hK => ?_)
  refine Kd.R_append_step k23 (w0 := V) base (by rfl) (.tmp 8) (.tmp 10) 27 23 (.agg #[.int .i64 0, .int .i64 0, .int .i64 0]) 24 rfl Try.underlying27 info_entry rfl (by decide) (by omega) v xs x [.int .i64 x.f0, .int .i64 x.f1, .int .i64 x.f2] (fun _ => True) (fun _ => False) rfl rfl ?aP (fun _ hk => hk.elim) (fun _ _ => trivial) ?aO ?aB ?aS ?aL ?_
  case aP => exact k23_mkM _ _ _ x
  case aO => exact HR.out
  case aB => exact Below.refl _ _
  case aS => exact HSV.out
  case aL => omega
  intro v1 w1 ho hb hg hat
  obtain ⟨A1, c1, rfl⟩ := Kd.R_slice ho
  have HO := hidH ho
  have HG1 := hidH (blk_grown HG.out hg (Kd.R_ne HR.out HG.out (by decide)))
  have HAT := hidH hat
  have HGR := hidH hg
  clear ho hb hg hat
  refine hK.out _ _ ?_
  clear hK K
  refine norm_ (a' := ?_) ?_ ?_
  rotate_left
  · show Act.put _ _ _ = _
    simp only [Act.put, List.setIfInBounds_toArray, List.set_cons_zero, List.set_cons_succ, i64_w, i32_w]
    rfl
  refine zqp 8 (some 12) (zqB 11 511) (by kernel_rfl) (h := ?_)
  refine zqp 9 (some 13) (zqB 11 1023) (by kernel_rfl) (h := ?_)
  refine last_ (i := 10) (N := none) (zqB 11 2047) rfl rfl (by kernel_rfl) (by decide) (fun K hK => ?_)
  refine want_ (by rfl) ?_
  have hc0 := blk_cell HG1.out 1
  have hf0 := blk_frozen HG1.out 1
  go_simp
  refine hK.out _ _ ?_
  clear hK K hc0 hf0
  refine done_ (by kernel_rfl) ?_
  go_wp2
  refine bodyPost_end (results_none rfl _ _ _) rfl ?_
  refine ⟨rfl, (Value.slice A1 (xs.length + 1) c1).ownBlock, ⟨HBG.out, _, blk_set HG1.out 1 _, rfl, ?_⟩, ?_⟩
  · have e_ := Kd.R_set HO.out HG1.out (by decide) 1 (.slice A1 (xs.length + 1) c1)
    simpa using e_
  · have f := ((Frm.refl w g r).below HB.out).below HDV.out
    have hb := (Below.refl 0 w1).setCell (p := ⟨g, 1, none⟩) (Nat.zero_le _) (.slice A1 (xs.length + 1) c1)
    have hg := HGR.out
    refine ⟨hb.os.trans (hg.os.trans f.os), hb.tape.trans (hg.tape.trans f.tape), hb.output.trans (hg.output.trans f.output), Nat.le_trans f.size (Nat.le_trans hg.size hb.size), fun k hk h1 h2 => ?_, fun b hb_ => ?_⟩
    · rw [Below.heap_setCell _ _ _ _ h1, hg.block k (Nat.lt_of_lt_of_le hk f.size) (by rw [HVR.out]; exact h2)]
      exact f.block k hk h1 h2
    · rcases HAT.out with e | ⟨b', e, hle⟩
      · refine .inl ?_
        rw [← HVR.out, ← e]
        simpa using hb_
      · have e2 : (Value.slice A1 (xs.length + 1) c1).ownBlock = some b' := by simpa using e
        rw [e2] at hb_
        exact .inr (by rw [← Option.some.inj hb_]; exact Nat.le_trans f.size hle)

end Go.Proofs.Ytjlfejgblhgceaa.PB
