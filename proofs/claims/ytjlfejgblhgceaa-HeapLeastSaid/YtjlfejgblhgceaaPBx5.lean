-- Printed for this claim by wip/tools/xprint.py over the kit's print; the contracts marked BY HAND are this session's own.
import Derived.Test.YtjlfejgblhgceaaPBx0
import Derived.Test.YtjlfejgblhgceaaPBx1
import Derived.Test.YtjlfejgblhgceaaPBx2
import Derived.Test.YtjlfejgblhgceaaPBx3
import Derived.Test.YtjlfejgblhgceaaPBx4
namespace Go.Proofs.Ytjlfejgblhgceaa.PB
open Go.RowKit Go.Proofs.YtjlfejgblhgceaaW.PrintWords Go.Proofs.YtjlfejgblhgceaaW.PrintLast Go.Proofs.YtjlfejgblhgceaaW.PrintMore
attribute [local go_sem] max2_int min2_int max_two min_two max_three min_three max_four min_four   -- for this text's walks alone
set_option linter.unusedVariables false
set_option linter.unusedSimpArgs false

/-! ### haulierref03_Heap_Take: function 15, BY HAND -/
/-- The first of the first i that none of these comes ahead of: at m. -/
def MinTo (o : Int) (xs : List S23) (i m : Nat) : Prop := m < i ∧ ∀ j (hj : j < xs.length) (hm : m < xs.length), j < i → lessE o xs[j] xs[m] = false
theorem MinTo.start (o : Int) (xs : List S23) : MinTo o xs 1 0 := ⟨Nat.zero_lt_one, fun j hj hm h => by
  obtain rfl : j = 0 := by omega
  exact (less_strict o).irr _⟩
theorem MinTo.take {o : Int} {xs : List S23} {i m : Nat} (h : MinTo o xs i m) (hi : i < xs.length) (hm : m < xs.length) (hl : lessE o xs[i] xs[m] = true) : MinTo o xs (i + 1) i := ⟨Nat.lt_succ_self _, fun j hj _ hlt => by
  by_cases e : j = i
  · subst e
    exact (less_strict o).irr _
  · exact (less_strict o).ntr (h.2 j hj hm (by omega)) ((less_strict o).asym hl)⟩
theorem MinTo.pass {o : Int} {xs : List S23} {i m : Nat} (h : MinTo o xs i m) (hi : i < xs.length) (hm : m < xs.length) (hl : lessE o xs[i] xs[m] = false) : MinTo o xs (i + 1) m := ⟨Nat.lt_succ_of_lt h.1, fun j hj hm' hlt => by
  by_cases e : j = i
  · subst e
    exact hl
  · exact h.2 j hj hm' (by omega)⟩
theorem ref_take_nil (base g : Nat) (r : Option Nat) (o : Int) (w : World) (h : RefAt w base g r o []) :
    Calls Try.prog 15 #[.pointer (some ⟨g, 0, none⟩)] w fun e w' => e = .returned (.tuple #[.agg #[.int .i64 0, .int .i64 0, .int .i64 0], .bool false]) ∧ RefAt w' base g r o [] ∧ Frm w w' g r r := by
  have HA := hidH h
  obtain ⟨-, v, hg, -, hR⟩ := h
  obtain ⟨A, c, rfl⟩ := Kd.R_slice hR
  have HX := hidH (blk_alloc hg (.cells #[.int .i64 0, .int .i64 0, .int .i64 0] 23))
  have hc1 := blk_cell HX.out 1
  clear hg hR
  go_enter Try.func15, Try.ntmps15
  go_wp2
  refine bodyPost_ret (results_ct rfl _ _ w.heap.size _ _ _ _ rfl (blk_new _ _) Try.underlying23 rfl (by kernel_rfl)) rfl ?_
  exact ⟨rfl, HA.out.below (below_alloc (Below.refl _ _) _), (Frm.refl w g r).below (below_alloc (Below.refl _ _) _)⟩
set_option maxHeartbeats 2000000 in
theorem ref_take_cons (base g : Nat) (r : Option Nat) (o : Int) (xs : List S23) (w : World) (hbase : base ≤ w.heap.size) (hpos : 0 < xs.length) (hlen : xs.length ≤ 100000) (h : RefAt w base g r o xs) :
    Calls Try.prog 15 #[.pointer (some ⟨g, 0, none⟩)] w fun e w' => ∃ m, ∃ hm : m < xs.length, (∀ y ∈ xs, lessE o y xs[m] = false) ∧ e = .returned (.tuple #[.agg #[.int .i64 (xs[m]).f0, .int .i64 (xs[m]).f1, .int .i64 (xs[m]).f2], .bool true]) ∧ ∃ r', RefAt w' base g r' o (xs.take m ++ xs.drop (m + 1)) ∧ Frm w w' g r r' := by
  have HL := hidH h.lt
  obtain ⟨hbg, v, hg, hvr, hR⟩ := h
  obtain ⟨gr, cap, ev, hgb, hgl, -⟩ := Kd.R_form hR hpos
  subst ev
  have HNE := hidH (show g ≠ gr by intro he; exact absurd (Kd.R_ne hR hg (by decide)) (by rw [he]; simp [Value.ownBlock]))
  have HVG := hidH (show r = some gr by rw [← hvr]; rfl)
  obtain ⟨ad, had⟩ : ∃ ad : Addr, ad = ⟨gr, 0, none⟩ := ⟨_, rfl⟩
  rw [← had] at hg hR
  obtain ⟨W, hW⟩ : ∃ W, W = w.alloc (.cells #[.int .i64 0, .int .i64 0, .int .i64 0] 23) := ⟨_, rfl⟩
  have HX := hidH (show W.heap[w.heap.size]? = some (.cells #[.int .i64 0, .int .i64 0, .int .i64 0] 23 (0, 0)) by rw [hW]; exact blk_new _ _)
  have HB := hidH (show Below w.heap.size w W by rw [hW]; exact below_alloc (Below.refl _ w) _)
  have HG := hidH (blk_below hg HB.out)
  have HR := hidH (Kd.R_below hR HB.out)
  have HBG := hidH hbg
  have HAD := hidH had
  have HGL := hidH hgl
  have hc1 := show (w.alloc (.cells #[.int .i64 0, .int .i64 0, .int .i64 0] 23)).cell? ⟨g, 1, none⟩ = some (.slice (some ad) xs.length cap) by rw [← hW]; exact blk_cell HG.out 1
  have hcap : xs.length ≤ cap := (Kd.R_reads' hR).2.1
  have z1 : ((xs.length : Int) = 0) = False := eq_false (by omega)
  have z2 : (xs.length = 0) = False := eq_false (by omega)
  have z3 : ((xs.length : Int) == 0) = false := beq_eq_false_iff_ne.2 (by omega)
  have HW := hidH hW
  clear hg hvr hR hbg had hgb hgl hW
  go_enter Try.func15, Try.ntmps15
  go_wp2
  rw [← HW.out]
  go_loopg [4, 5] (xs.length + 1 - 1) (fun kq v4 v5 wr => ∃ (m i : Nat), Hid (kq = xs.length + 1 - i) ∧ v4 = .int .i64 (m : Int) ∧ v5 = .int .i64 (i : Int) ∧ i ≤ xs.length ∧ m < xs.length ∧ Hid (MinTo o xs i m) ∧ Hid (Below W.heap.size W wr))
  case atStart => exact ⟨0, 1, hidH rfl, rfl, rfl, by omega, hpos, hidH (MinTo.start o xs), hidH (Below.refl _ _)⟩
  case round =>
    obtain ⟨m, i, HI, rfl, rfl, hi, hm, HM, HBr⟩ := hrel
    have HG2 := hidH (blk_below HG.out HBr.out)
    have HR2 := hidH (Kd.R_below HR.out HBr.out)
    have hc0 := blk_cell HG2.out 0
    have hcr := blk_cell HG2.out 1
    have m1 : ((m : Int) < (xs.length : Int)) = True := eq_true (by omega)
    have m2 : ((0 : Int) ≤ (m : Int)) = True := eq_true (by omega)
    have m3 : (m < xs.length) = True := eq_true hm
    by_cases hlt : i < xs.length
    · have t1 : decide ((i : Int) < (xs.length : Int)) = true := decide_eq_true (by omega)
      have t1n : decide (i < xs.length) = true := decide_eq_true hlt
      have q1 : ((i : Int) < (xs.length : Int)) = True := eq_true (by omega)
      have q2 : ((0 : Int) ≤ (i : Int)) = True := eq_true (by omega)
      have q3 : (i < xs.length) = True := eq_true hlt
      go_wp2
      have hle := ref_less_eq o xs[i] xs[m]
      cases hl : lessE o xs[i] xs[m] with
      | true =>
        rw [hl] at hle
        have HL := hidH hle
        have HC := hidH hl
        clear hl hle
        refine start_ (n := 20) (S := TwoR wr g o (.slice (some ad) xs.length cap) (ad.add (i * 3)) (ad.add (m * 3)) xs[i] xs[m]) (ds := []) (zqB 20 0) (by kernel_rfl) rfl rfl (TwoR.at_ HG2.out HR2.out i m hlt hm) (fun hHeld => ?_)
        refine zqp 0 (some 25) (zqB 20 1) (by kernel_rfl) (h := ?_)
        refine zqp 1 (some 26) (zqB 20 3) (by kernel_rfl) (h := ?_)
        refine zqp 2 (some 27) (zqB 20 7) (by kernel_rfl) (h := ?_)
        refine zqt 3 (some 28) (zqB 20 15) (by kernel_rfl) hHeld (h := ?_)
        refine zqp 4 (some 29) (zqB 20 31) (by kernel_rfl) (h := ?_)
        refine zqp 5 (some 30) (zqB 20 63) (by kernel_rfl) (h := ?_)
        refine zqp 6 (some 31) (zqB 20 127) (by kernel_rfl) (h := ?_)
        refine zqt 7 (some 32) (zqB 20 255) (by kernel_rfl) hHeld (h := ?_)
        refine zqp 8 (some 33) (zqB 20 511) (by kernel_rfl) (h := ?_)
        refine zqp 9 (some 34) (zqB 20 1023) (by kernel_rfl) (h := ?_)
        refine zqt 10 (some 35) (zqB 20 2047) (by kernel_rfl) hHeld (h := ?_)
        refine zqp 11 (some 36) (zqB 20 4095) (by kernel_rfl) (h := ?_)
        refine zqp 12 (some 37) (zqB 20 8191) (by kernel_rfl) (h := ?_)
        refine zqp 13 (some 38) (zqB 20 16383) (by kernel_rfl) (h := ?_)
        refine zqt 14 (some 39) (zqB 20 32767) (by kernel_rfl) hHeld (h := ?_)
        refine zqp 15 (some 40) (zqB 20 65535) (by kernel_rfl) (h := ?_)
        refine zqp 16 (some 41) (zqB 20 131071) (by kernel_rfl) (h := ?_)
        refine zqt 17 (some 42) (zqB 20 262143) (by kernel_rfl) hHeld (h := ?_)
        refine one_ (i := 18) (N := some 43) (zqB 20 524287) rfl rfl (by kernel_rfl) (by decide) (fun K hK => ?_)
        refine goes_ Try.func19 (by kernel_rfl) rfl #[.int .i64 o, .agg #[.int .i64 xs[i].f0, .int .i64 xs[i].f1, .int .i64 xs[i].f2], .agg #[.int .i64 xs[m].f0, .int .i64 xs[m].f1, .int .i64 xs[m].f2]] (by rfl) rfl rfl (by first | rfl | (simp only [List.map_toArray, List.map_cons, List.map_nil]; rfl)) ?_
        refine (haulierref03_Less.calls _ _ _ _ _ _ _ _ _ HL.out).mono ?_
        rintro e w1 ⟨rfl, hb⟩
        refine ⟨_, rfl, ?_⟩
        refine hK.out _ _ (TwoR.on hHeld hb) (fun hHeld => ?_)
        clear hK K hb
        refine norm_ (a' := ?_) ?_ ?_
        rotate_left
        · show Act.put _ _ _ = _
          simp only [Act.put, List.setIfInBounds_toArray, List.set_cons_zero, List.set_cons_succ, i64_w, i32_w]
          rfl
        refine zqp 19 (some 6) (zqB 20 1048575) (by kernel_rfl) (h := ?_)
        refine done_ (by kernel_rfl) ?_
        go_wp2
        go_roundg (xs.length + 1 - (i + 1))
        case measure => have := HI.out; omega
        case rel => exact ⟨i, i + 1, hidH rfl, by go_num, by go_num, by omega, hlt, hidH (HM.out.take hlt hm HC.out), hidH (below_step HBr.out hHeld.2.2.2.2.2.2.2.2)⟩
      | false =>
        rw [hl] at hle
        have HL := hidH hle
        have HC := hidH hl
        clear hl hle
        refine start_ (n := 20) (S := TwoR wr g o (.slice (some ad) xs.length cap) (ad.add (i * 3)) (ad.add (m * 3)) xs[i] xs[m]) (ds := []) (zqB 20 0) (by kernel_rfl) rfl rfl (TwoR.at_ HG2.out HR2.out i m hlt hm) (fun hHeld => ?_)
        refine zqp 0 (some 25) (zqB 20 1) (by kernel_rfl) (h := ?_)
        refine zqp 1 (some 26) (zqB 20 3) (by kernel_rfl) (h := ?_)
        refine zqp 2 (some 27) (zqB 20 7) (by kernel_rfl) (h := ?_)
        refine zqt 3 (some 28) (zqB 20 15) (by kernel_rfl) hHeld (h := ?_)
        refine zqp 4 (some 29) (zqB 20 31) (by kernel_rfl) (h := ?_)
        refine zqp 5 (some 30) (zqB 20 63) (by kernel_rfl) (h := ?_)
        refine zqp 6 (some 31) (zqB 20 127) (by kernel_rfl) (h := ?_)
        refine zqt 7 (some 32) (zqB 20 255) (by kernel_rfl) hHeld (h := ?_)
        refine zqp 8 (some 33) (zqB 20 511) (by kernel_rfl) (h := ?_)
        refine zqp 9 (some 34) (zqB 20 1023) (by kernel_rfl) (h := ?_)
        refine zqt 10 (some 35) (zqB 20 2047) (by kernel_rfl) hHeld (h := ?_)
        refine zqp 11 (some 36) (zqB 20 4095) (by kernel_rfl) (h := ?_)
        refine zqp 12 (some 37) (zqB 20 8191) (by kernel_rfl) (h := ?_)
        refine zqp 13 (some 38) (zqB 20 16383) (by kernel_rfl) (h := ?_)
        refine zqt 14 (some 39) (zqB 20 32767) (by kernel_rfl) hHeld (h := ?_)
        refine zqp 15 (some 40) (zqB 20 65535) (by kernel_rfl) (h := ?_)
        refine zqp 16 (some 41) (zqB 20 131071) (by kernel_rfl) (h := ?_)
        refine zqt 17 (some 42) (zqB 20 262143) (by kernel_rfl) hHeld (h := ?_)
        refine one_ (i := 18) (N := some 43) (zqB 20 524287) rfl rfl (by kernel_rfl) (by decide) (fun K hK => ?_)
        refine goes_ Try.func19 (by kernel_rfl) rfl #[.int .i64 o, .agg #[.int .i64 xs[i].f0, .int .i64 xs[i].f1, .int .i64 xs[i].f2], .agg #[.int .i64 xs[m].f0, .int .i64 xs[m].f1, .int .i64 xs[m].f2]] (by rfl) rfl rfl (by first | rfl | (simp only [List.map_toArray, List.map_cons, List.map_nil]; rfl)) ?_
        refine (haulierref03_Less.calls _ _ _ _ _ _ _ _ _ HL.out).mono ?_
        rintro e w1 ⟨rfl, hb⟩
        refine ⟨_, rfl, ?_⟩
        refine hK.out _ _ (TwoR.on hHeld hb) (fun hHeld => ?_)
        clear hK K hb
        refine norm_ (a' := ?_) ?_ ?_
        rotate_left
        · show Act.put _ _ _ = _
          simp only [Act.put, List.setIfInBounds_toArray, List.set_cons_zero, List.set_cons_succ, i64_w, i32_w]
          rfl
        refine zqp 19 (some 6) (zqB 20 1048575) (by kernel_rfl) (h := ?_)
        refine done_ (by kernel_rfl) ?_
        go_wp2
        go_roundg (xs.length + 1 - (i + 1))
        case measure => have := HI.out; omega
        case rel => exact ⟨m, i + 1, hidH rfl, by go_num, by go_num, by omega, hm, hidH (HM.out.pass hlt hm HC.out), hidH (below_step HBr.out hHeld.2.2.2.2.2.2.2.2)⟩
    · have t1 : decide ((i : Int) < (xs.length : Int)) = false := decide_eq_false (by omega)
      have t1n : decide (i < xs.length) = false := decide_eq_false hlt
      have hil : i = xs.length := by omega
      obtain ⟨x0, x1, x2⟩ := entry_at HR2.out m hm
      have HG3 := hidH (blk_alloc HG2.out (.cells #[.int .i64 xs[m].f0, .int .i64 xs[m].f1, .int .i64 xs[m].f2] 23))
      have HR3 := hidH (Kd.R_alloc HR2.out (.cells #[.int .i64 xs[m].f0, .int .i64 xs[m].f1, .int .i64 xs[m].f2] 23))
      have HX3 := hidH (blk_alloc (blk_below HX.out HBr.out) (.cells #[.int .i64 xs[m].f0, .int .i64 xs[m].f1, .int .i64 xs[m].f2] 23))
      have HE3 := hidH (blk_new wr (.cells #[.int .i64 xs[m].f0, .int .i64 xs[m].f1, .int .i64 xs[m].f2] 23))
      have hca := blk_cell HG3.out 1
      have hs3 : base ≤ wr.heap.size := Nat.le_trans hbase (Nat.le_trans HB.out.size HBr.out.size)
      have m4 : (m ≤ cap) = True := eq_true (by omega)
      have m5 : ((m : Int) ≤ (cap : Int)) = True := eq_true (by omega)
      have m6 : (m + 1 ≤ xs.length) = True := eq_true (by omega)
      have m7 : ((m : Int) + 1 ≤ (xs.length : Int)) = True := eq_true (by omega)
      clear hc0
      have hgl0 := HL.out.1
      have hCr := Kd.C_take (Kd.R_reads' HR3.out).2.2 (Nat.le_of_lt hm)
      rw [List.length_take, Nat.min_eq_left (Nat.le_of_lt hm)] at hCr
      have HCR := hidH hCr
      clear hCr
      by_cases hcm : cap = m + 1
      · have hcy : (cap = m + 1) = True := eq_true hcm
        have HCM := hidH hcm
        clear hcm
        go_wp2_with (first | ((with_reducible refine gate_dst (N := 59) rfl ?_); refine Kd.R_append_rows k23 (w0 := wr.alloc (.cells #[.int .i64 xs[m].f0, .int .i64 xs[m].f1, .int .i64 xs[m].f2] 23)) base rfl (.const (.slice none 0 0)) (.tmp 58) 27 23 (.agg #[.int .i64 0, .int .i64 0, .int .i64 0]) 24 rfl Try.underlying27 info_entry rfl (by decide) (by omega) (.slice none 0 0) [] (xs.take m) (some ad) m cap (fun _ => True) (fun _ => False) rfl rfl (Kd.R_nil _ _ _ _ _) HCR.out (fun x cs h => by obtain rfl := k23_open h; exact k23_mkM _ _ _ x) (fun _ h => h.elim) (fun _ _ => trivial) (Below.refl _ _) (by rw [World.size_alloc]; omega) (by rw [List.length_nil]; omega) ?_; intro v1 w1 ho hb hg hat; rw [List.nil_append] at ho; obtain ⟨A1, c1, e1⟩ := Kd.R_slice ho; rw [List.length_take, Nat.min_eq_left (Nat.le_of_lt hm)] at e1; subst e1; have HO1 := hidH ho; have HGR1 := hidH hg; have HAT1 := hidH hat; have HG4 := hidH (blk_grown HG3.out hg (by simp [Value.ownBlock])); have HX4 := hidH (blk_grown HX3.out hg (by simp [Value.ownBlock])); have HE4 := hidH (blk_grown HE3.out hg (by simp [Value.ownBlock])); have hc4 := blk_cell HG4.out 1; have hCd := Kd.C_drop (m := m + 1) (c := cap) (Kd.R_reads' (Kd.R_grown HR3.out hg (fun _ _ => by simp [Value.ownBlock]))).2.2 hm hcap; rw [List.length_drop, if_pos HCM.out] at hCd; have HCD := hidH hCd; clear ho hb hg hat hCd) |
          ((with_reducible refine gate_dst (N := 68) rfl ?_); refine Kd.R_append_rows k23 (w0 := w1) base rfl (.tmp 60) (.tmp 67) 27 23 (.agg #[.int .i64 0, .int .i64 0, .int .i64 0]) 24 rfl Try.underlying27 info_entry rfl (by decide) (by omega) (.slice A1 m c1) (xs.take m) (xs.drop (m + 1)) _ _ _ (fun _ => True) (fun _ => False) rfl rfl HO1.out HCD.out (fun x cs h => by obtain rfl := k23_open h; exact k23_mkM _ _ _ x) (fun _ h => h.elim) (fun _ _ => trivial) (Below.refl _ _) (Nat.le_trans (by rw [World.size_alloc]; omega) HGR1.out.size) (by rw [List.length_take]; omega) ?_; intro v2 w2 ho hb hg hat; obtain ⟨A2, c2, e2⟩ := Kd.R_slice ho; rw [show (xs.take m ++ xs.drop (m + 1)).length = xs.length - 1 by rw [List.length_append, List.length_take, List.length_drop]; omega] at e2; subst e2; have HO2 := hidH ho; have HGR2 := hidH hg; have HAT2 := hidH hat; have hne : ∀ k, k < wr.heap.size + 1 → some k ≠ (Value.slice A1 m c1).ownBlock := (fun k hk e => by
              rcases HAT1.out with e1 | ⟨b, e1, hle⟩
              · rw [e1] at e
                simp [Value.ownBlock] at e
              · rw [World.size_alloc] at hle
                rw [e1] at e
                have := Option.some.inj e
                omega); have HNEW := hidH hne; have HG5 := hidH (blk_grown HG4.out hg (hne g (by have := blk_lt HG2.out; omega))); have HX5 := hidH (blk_grown HX4.out hg (hne _ (by have := hs3; have := blk_lt (blk_below HX.out HBr.out); omega))); have HE5 := hidH (blk_grown HE4.out hg (hne _ (Nat.lt_succ_self _))); clear ho hb hg hat hne) |
          ((with_reducible refine gate_store 27 72 70 rfl ?_); refine zqv 27 _ _ 1 1 #[.int .i64 o, .slice A2 (xs.length - 1) c2] HG5.out rfl rfl rfl rfl rfl rfl (by rfl) (by kernel_rfl) (by exact Nat.le_of_ble_eq_true rfl) (by rfl) ?_; intro w3 hf hbel hfar; have HG6 := hidH hf; have HBE6 := hidH hbel; have HFA6 := hidH hfar; have HX6 := hidH ((hfar _ (by have := HL.out.1; omega)).trans HX5.out); have HE6 := hidH ((hfar _ (by have := blk_lt HG2.out; omega)).trans HE5.out); obtain ⟨x0, x1, x2, -⟩ := zqz3 HE6.out; clear hf hbel hfar) |
          ((with_reducible refine gate_store 23 2 73 rfl ?_); refine zqv 23 _ _ 0 3 #[.int .i64 xs[m].f0, .int .i64 xs[m].f1, .int .i64 xs[m].f2] HX6.out rfl rfl rfl rfl rfl rfl (by rfl) (by kernel_rfl) (by exact Nat.le_of_ble_eq_true rfl) (by rfl) ?_; intro wF hf hbel hfar; have HF := hidH hf; have HBE := hidH hbel; have HFE := hidH hfar; clear hf hbel hfar))
        refine bodyPost_ret (results_ct rfl _ _ w.heap.size _ _ _ _ rfl HF.out Try.underlying23 rfl (by kernel_rfl)) rfl ?_
        have hne := HNEW.out
        have hl := HL.out
        have hgw : g < wr.heap.size := blk_lt HG2.out
        have hw2 : w.heap.size < wr.heap.size := blk_lt (blk_below HX.out HBr.out)
        have hs1 := HGR1.out.size
        rw [World.size_alloc] at hs1
        have hnew : ∀ k, (Value.slice A2 (xs.length - 1) c2).ownBlock = some k → wr.heap.size + 1 ≤ k := by
          intro k hk
          rcases HAT2.out with e | ⟨b, e, hle⟩
          · rw [e] at hk
            rcases Nat.lt_or_ge k (wr.heap.size + 1) with h | h
            · exact absurd hk.symm (hne k h)
            · exact h
          · rw [e] at hk
            have := Option.some.inj hk
            omega
        refine ⟨m, hm, fun y hy => ?_, rfl, (Value.slice A2 (xs.length - 1) c2).ownBlock, ⟨HBG.out, _, (HFE.out g (by omega)).trans HG6.out, rfl, ?_⟩, ?_⟩
        · obtain ⟨j, hj, rfl⟩ := List.mem_iff_getElem.1 hy
          exact HM.out.2 j hj hm (by omega)
        · exact RE_kept (RE_kept HO2.out (fun k hk => HFA6.out k (by have := hnew k hk; omega))) (fun k hk => HFE.out k (by have := hnew k hk; omega))
        · have f := (((Frm.refl w g r).below HB.out).below HBr.out).below (below_alloc (Below.refl _ _) (.cells #[.int .i64 xs[m].f0, .int .i64 xs[m].f1, .int .i64 xs[m].f2] 23))
          have b3 := HBE6.out 0 w2 (Below.refl _ _) (Nat.zero_le _)
          have bF := HBE.out 0 w3 (Below.refl _ _) (Nat.zero_le _)
          have g1 := HGR1.out
          have g2 := HGR2.out
          have hsz : w.heap.size ≤ wr.heap.size := Nat.le_of_lt hw2
          refine ⟨bF.os.trans (b3.os.trans (g2.os.trans (g1.os.trans f.os))), bF.tape.trans (b3.tape.trans (g2.tape.trans (g1.tape.trans f.tape))), bF.output.trans (b3.output.trans (g2.output.trans (g1.output.trans f.output))), Nat.le_trans f.size (Nat.le_trans g1.size (Nat.le_trans g2.size (Nat.le_trans b3.size bF.size))), fun k hk h1 h2 => ?_, fun b hb => .inr (by have := hnew b hb; omega)⟩
          rw [HFE.out k (by omega), HFA6.out k h1, g2.block k (by omega) (hne k (by omega)), g1.block k (by rw [World.size_alloc]; omega) (by simp [Value.ownBlock])]
          exact f.block k hk h1 h2
      · have hcy : (cap = m + 1) = False := eq_false hcm
        have HCM := hidH hcm
        clear hcm
        go_wp2_with (first | ((with_reducible refine gate_dst (N := 59) rfl ?_); refine Kd.R_append_rows k23 (w0 := wr.alloc (.cells #[.int .i64 xs[m].f0, .int .i64 xs[m].f1, .int .i64 xs[m].f2] 23)) base rfl (.const (.slice none 0 0)) (.tmp 58) 27 23 (.agg #[.int .i64 0, .int .i64 0, .int .i64 0]) 24 rfl Try.underlying27 info_entry rfl (by decide) (by omega) (.slice none 0 0) [] (xs.take m) (some ad) m cap (fun _ => True) (fun _ => False) rfl rfl (Kd.R_nil _ _ _ _ _) HCR.out (fun x cs h => by obtain rfl := k23_open h; exact k23_mkM _ _ _ x) (fun _ h => h.elim) (fun _ _ => trivial) (Below.refl _ _) (by rw [World.size_alloc]; omega) (by rw [List.length_nil]; omega) ?_; intro v1 w1 ho hb hg hat; rw [List.nil_append] at ho; obtain ⟨A1, c1, e1⟩ := Kd.R_slice ho; rw [List.length_take, Nat.min_eq_left (Nat.le_of_lt hm)] at e1; subst e1; have HO1 := hidH ho; have HGR1 := hidH hg; have HAT1 := hidH hat; have HG4 := hidH (blk_grown HG3.out hg (by simp [Value.ownBlock])); have HX4 := hidH (blk_grown HX3.out hg (by simp [Value.ownBlock])); have HE4 := hidH (blk_grown HE3.out hg (by simp [Value.ownBlock])); have hc4 := blk_cell HG4.out 1; have hCd := Kd.C_drop (m := m + 1) (c := cap) (Kd.R_reads' (Kd.R_grown HR3.out hg (fun _ _ => by simp [Value.ownBlock]))).2.2 hm hcap; rw [List.length_drop, if_neg HCM.out] at hCd; have HCD := hidH hCd; clear ho hb hg hat hCd) |
          ((with_reducible refine gate_dst (N := 68) rfl ?_); refine Kd.R_append_rows k23 (w0 := w1) base rfl (.tmp 60) (.tmp 67) 27 23 (.agg #[.int .i64 0, .int .i64 0, .int .i64 0]) 24 rfl Try.underlying27 info_entry rfl (by decide) (by omega) (.slice A1 m c1) (xs.take m) (xs.drop (m + 1)) _ _ _ (fun _ => True) (fun _ => False) rfl rfl HO1.out HCD.out (fun x cs h => by obtain rfl := k23_open h; exact k23_mkM _ _ _ x) (fun _ h => h.elim) (fun _ _ => trivial) (Below.refl _ _) (Nat.le_trans (by rw [World.size_alloc]; omega) HGR1.out.size) (by rw [List.length_take]; omega) ?_; intro v2 w2 ho hb hg hat; obtain ⟨A2, c2, e2⟩ := Kd.R_slice ho; rw [show (xs.take m ++ xs.drop (m + 1)).length = xs.length - 1 by rw [List.length_append, List.length_take, List.length_drop]; omega] at e2; subst e2; have HO2 := hidH ho; have HGR2 := hidH hg; have HAT2 := hidH hat; have hne : ∀ k, k < wr.heap.size + 1 → some k ≠ (Value.slice A1 m c1).ownBlock := (fun k hk e => by
              rcases HAT1.out with e1 | ⟨b, e1, hle⟩
              · rw [e1] at e
                simp [Value.ownBlock] at e
              · rw [World.size_alloc] at hle
                rw [e1] at e
                have := Option.some.inj e
                omega); have HNEW := hidH hne; have HG5 := hidH (blk_grown HG4.out hg (hne g (by have := blk_lt HG2.out; omega))); have HX5 := hidH (blk_grown HX4.out hg (hne _ (by have := hs3; have := blk_lt (blk_below HX.out HBr.out); omega))); have HE5 := hidH (blk_grown HE4.out hg (hne _ (Nat.lt_succ_self _))); clear ho hb hg hat hne) |
          ((with_reducible refine gate_store 27 72 70 rfl ?_); refine zqv 27 _ _ 1 1 #[.int .i64 o, .slice A2 (xs.length - 1) c2] HG5.out rfl rfl rfl rfl rfl rfl (by rfl) (by kernel_rfl) (by exact Nat.le_of_ble_eq_true rfl) (by rfl) ?_; intro w3 hf hbel hfar; have HG6 := hidH hf; have HBE6 := hidH hbel; have HFA6 := hidH hfar; have HX6 := hidH ((hfar _ (by have := HL.out.1; omega)).trans HX5.out); have HE6 := hidH ((hfar _ (by have := blk_lt HG2.out; omega)).trans HE5.out); obtain ⟨x0, x1, x2, -⟩ := zqz3 HE6.out; clear hf hbel hfar) |
          ((with_reducible refine gate_store 23 2 73 rfl ?_); refine zqv 23 _ _ 0 3 #[.int .i64 xs[m].f0, .int .i64 xs[m].f1, .int .i64 xs[m].f2] HX6.out rfl rfl rfl rfl rfl rfl (by rfl) (by kernel_rfl) (by exact Nat.le_of_ble_eq_true rfl) (by rfl) ?_; intro wF hf hbel hfar; have HF := hidH hf; have HBE := hidH hbel; have HFE := hidH hfar; clear hf hbel hfar))
        refine bodyPost_ret (results_ct rfl _ _ w.heap.size _ _ _ _ rfl HF.out Try.underlying23 rfl (by kernel_rfl)) rfl ?_
        have hne := HNEW.out
        have hl := HL.out
        have hgw : g < wr.heap.size := blk_lt HG2.out
        have hw2 : w.heap.size < wr.heap.size := blk_lt (blk_below HX.out HBr.out)
        have hs1 := HGR1.out.size
        rw [World.size_alloc] at hs1
        have hnew : ∀ k, (Value.slice A2 (xs.length - 1) c2).ownBlock = some k → wr.heap.size + 1 ≤ k := by
          intro k hk
          rcases HAT2.out with e | ⟨b, e, hle⟩
          · rw [e] at hk
            rcases Nat.lt_or_ge k (wr.heap.size + 1) with h | h
            · exact absurd hk.symm (hne k h)
            · exact h
          · rw [e] at hk
            have := Option.some.inj hk
            omega
        refine ⟨m, hm, fun y hy => ?_, rfl, (Value.slice A2 (xs.length - 1) c2).ownBlock, ⟨HBG.out, _, (HFE.out g (by omega)).trans HG6.out, rfl, ?_⟩, ?_⟩
        · obtain ⟨j, hj, rfl⟩ := List.mem_iff_getElem.1 hy
          exact HM.out.2 j hj hm (by omega)
        · exact RE_kept (RE_kept HO2.out (fun k hk => HFA6.out k (by have := hnew k hk; omega))) (fun k hk => HFE.out k (by have := hnew k hk; omega))
        · have f := (((Frm.refl w g r).below HB.out).below HBr.out).below (below_alloc (Below.refl _ _) (.cells #[.int .i64 xs[m].f0, .int .i64 xs[m].f1, .int .i64 xs[m].f2] 23))
          have b3 := HBE6.out 0 w2 (Below.refl _ _) (Nat.zero_le _)
          have bF := HBE.out 0 w3 (Below.refl _ _) (Nat.zero_le _)
          have g1 := HGR1.out
          have g2 := HGR2.out
          have hsz : w.heap.size ≤ wr.heap.size := Nat.le_of_lt hw2
          refine ⟨bF.os.trans (b3.os.trans (g2.os.trans (g1.os.trans f.os))), bF.tape.trans (b3.tape.trans (g2.tape.trans (g1.tape.trans f.tape))), bF.output.trans (b3.output.trans (g2.output.trans (g1.output.trans f.output))), Nat.le_trans f.size (Nat.le_trans g1.size (Nat.le_trans g2.size (Nat.le_trans b3.size bF.size))), fun k hk h1 h2 => ?_, fun b hb => .inr (by have := hnew b hb; omega)⟩
          rw [HFE.out k (by omega), HFA6.out k h1, g2.block k (by omega) (hne k (by omega)), g1.block k (by rw [World.size_alloc]; omega) (by simp [Value.ownBlock])]
          exact f.block k hk h1 h2
theorem heap_new (o : Int) (w : World) : Calls Try.prog 11 #[.int .i64 o] w fun e w' => e = .returned (.pointer (some ⟨w.heap.size, 0, none⟩)) ∧ HeapAt w' w.heap.size w.heap.size none o [] ∧ Below w.heap.size w w' := by
  go_enter Try.func11, Try.ntmps11
  go_wp2
  go_ret
  exact ⟨rfl, ⟨Nat.le_refl _, _, blk_new _ _, rfl, Kd.R_nil _ _ _ _ _⟩, below_alloc (Below.refl _ _) _⟩
/-- The document's least bound. -/
theorem add_0 (a : Addr) : a.add 0 = a := by
  obtain ⟨b, o, z⟩ := a
  unfold Addr.add
  split <;> simp_all
/-- .. of none. -/
theorem ref_least_nil (base g : Nat) (r : Option Nat) (o : Int) (w : World) (h : RefAt w base g r o []) : Calls Try.prog 18 #[.pointer (some ⟨g, 0, none⟩)] w fun e w' => e = .returned (.int .i64 1152921504606846976) ∧ Below w.heap.size w w' := by
  obtain ⟨-, v, hg, -, hR⟩ := h
  obtain ⟨A, c, rfl⟩ := Kd.R_slice hR
  have HG := hidH hg
  have hc1 := blk_cell HG.out 1
  clear hg hR
  go_enter Try.func18, Try.ntmps18
  go_wp2
  go_loopg [3, 4] 1 (fun kq v3 v4 wr => Hid (kq = 1) ∧ v3 = .int .i64 1152921504606846976 ∧ v4 = .int .i64 0 ∧ Hid (Below w.heap.size w wr))
  case atStart => exact ⟨hidH rfl, rfl, rfl, hidH (Below.refl _ _)⟩
  case round =>
    obtain ⟨HI, rfl, rfl, HB⟩ := hrel
    have hcr := blk_cell (blk_below HG.out HB.out) 1
    go_wp2
    go_ret
    exact ⟨rfl, HB.out⟩
theorem ref_least_cons (base g : Nat) (r : Option Nat) (o : Int) (x : S23) (t : List S23) (w : World) (hlen : (x :: t).length ≤ 200000) (h : RefAt w base g r o (x :: t)) : Calls Try.prog 18 #[.pointer (some ⟨g, 0, none⟩)] w fun e w' => e = .returned (.int .i64 (leastB (x :: t))) ∧ Below w.heap.size w w' := by
  obtain ⟨-, v, hg, -, hR⟩ := h
  obtain ⟨gr, cap, ev, -, -, -⟩ := Kd.R_form hR (Nat.zero_lt_succ _)
  subst ev
  obtain ⟨ad, had⟩ : ∃ ad : Addr, ad = ⟨gr, 0, none⟩ := ⟨_, rfl⟩
  rw [← had] at hg hR
  have HL : Hid (leastB (x :: t) = foldB x.f0 ((x :: t).take (x :: t).length)) := hidH (by
    rw [List.take_length]
    show _ = List.foldl _ (if x.f0 < x.f0 then x.f0 else x.f0) t
    rw [ite_self]
    rfl)
  have HX0 : Hid (∀ hp, x = (x :: t)[0]'hp) := hidH (fun _ => rfl)
  rw [HL.out]
  clear HL
  obtain ⟨xs, hxs⟩ : ∃ xs, xs = x :: t := ⟨_, rfl⟩
  rw [← hxs] at hg hR HX0 hlen ⊢
  have hpos : 0 < xs.length := by rw [hxs]; exact Nat.zero_lt_succ _
  have HG := hidH hg
  have HR := hidH hR
  have hc1 := blk_cell HG.out 1
  clear hg hR had hxs
  go_enter Try.func18, Try.ntmps18
  go_wp2
  go_loopg [3, 4] (xs.length + 1) (fun kq v3 v4 wr => ∃ (i : Nat) (n : Int), Hid (kq = xs.length + 1 - i) ∧ v3 = .int .i64 n ∧ v4 = .int .i64 (i : Int) ∧ i ≤ xs.length ∧ Hid (0 < i → n = foldB x.f0 (xs.take i)) ∧ Hid (Below w.heap.size w wr))
  case atStart => exact ⟨0, _, hidH rfl, rfl, rfl, Nat.zero_le _, hidH (fun h => absurd h (Nat.lt_irrefl _)), hidH (Below.refl _ _)⟩
  case round =>
    obtain ⟨i, n, HI, rfl, rfl, hi, HN, HB⟩ := hrel
    have hcr := blk_cell (blk_below HG.out HB.out) 1
    have HS : Hid (∀ hl : i < xs.length, foldB x.f0 (xs.take (i + 1)) = if xs[i].f0 < foldB x.f0 (xs.take i) then xs[i].f0 else foldB x.f0 (xs.take i)) := hidH (fun hl => by rw [List.take_succ_eq_append_getElem hl]; unfold foldB; rw [List.foldl_append]; rfl)
    by_cases hlt : i < xs.length
    · have t1 : decide ((i : Int) < (xs.length : Int)) = true := decide_eq_true (by omega)
      have t1n : decide (i < xs.length) = true := decide_eq_true hlt
      have q1 : ((i : Int) < (xs.length : Int)) = True := eq_true (by omega)
      have q2 : ((0 : Int) ≤ (i : Int)) = True := eq_true (by omega)
      have q3 : (i < xs.length) = True := eq_true hlt
      obtain ⟨x0, -, -⟩ := entry_at (Kd.R_below HR.out HB.out) i hlt
      by_cases h0 : i = 0
      · subst h0
        rw [Nat.zero_mul, add_0] at x0
        go_wp2
        go_roundg (xs.length + 1 - (0 + 1))
        case measure => have := HI.out; omega
        case rel => exact ⟨1, _, hidH rfl, rfl, by go_num, by omega, hidH (fun _ => by rw [HS.out hlt, List.take_zero]; show _ = if _ < x.f0 then _ else x.f0; rw [← HX0.out hlt, ite_self]), HB⟩
      · have p1 : ((i : Int) == 0) = false := beq_eq_false_iff_ne.2 (by omega)
        have p2 : ((i : Int) = 0) = False := eq_false (by omega)
        have p3 : (i = 0) = False := eq_false h0
        have HN2 := hidH (HN.out (by omega))
        go_wp2
        · go_roundg (xs.length + 1 - (i + 1))
          case measure => have := HI.out; omega
          case rel => exact ⟨i + 1, _, hidH rfl, rfl, by go_num, by omega, hidH (fun _ => by rw [HS.out hlt, ← HN2.out, if_pos (by omega)]), HB⟩
        · go_roundg (xs.length + 1 - (i + 1))
          case measure => have := HI.out; omega
          case rel => exact ⟨i + 1, _, hidH rfl, rfl, by go_num, by omega, hidH (fun _ => by rw [HS.out hlt, ← HN2.out, if_neg (by omega)]), HB⟩
    · have t1 : decide ((i : Int) < (xs.length : Int)) = false := decide_eq_false (by omega)
      have t1n : decide (i < xs.length) = false := decide_eq_false hlt
      have hil : i = xs.length := by omega
      have HN2 := hidH (HN.out (by omega))
      have HIL := hidH hil
      clear hil
      go_wp2
      go_ret
      exact ⟨by rw [HN2.out, HIL.out]; rfl, HB.out⟩

/-! ### heap_New: function 11, BY HAND -/

/-! ### heap_Heap_Take: function 13, BY HAND -/

/-! ### heap_Heap_Len: function 16, BY HAND -/

/-! ### haulierlaw03_awake: function 9, BY HAND -/
/-- Of those that none comes ahead of there is one. -/
theorem least_one {o : Int} {xs : List S23} {a b : S23} (ha : a ∈ xs) (hb : b ∈ xs) (h1 : ∀ y ∈ xs, lessE o y a = false) (h2 : ∀ y ∈ xs, lessE o y b = false) : a = b := by
  rcases (less_strict o).tot a b with h | h | h
  · rw [h2 a ha] at h; cases h
  · exact h
  · rw [h1 b hb] at h; cases h
theorem foldB_spec (l : List S23) (x : Int) : (foldB x l = x ∨ ∃ e ∈ l, e.f0 = foldB x l) ∧ foldB x l ≤ x ∧ ∀ e ∈ l, foldB x l ≤ e.f0 := by
  induction l generalizing x with
  | nil => exact ⟨.inl rfl, Int.le_refl _, fun _ h => by cases h⟩
  | cons a t ih =>
    have hstep : foldB x (a :: t) = foldB (if a.f0 < x then a.f0 else x) t := rfl
    obtain ⟨h1, h2, h3⟩ := ih (if a.f0 < x then a.f0 else x)
    rw [hstep]
    by_cases c : a.f0 < x
    · rw [if_pos c] at h1 h2 h3 ⊢
      refine ⟨.inr ?_, by omega, fun e he => ?_⟩
      · rcases h1 with h | ⟨e, he, h⟩
        · exact ⟨a, List.mem_cons_self, h.symm⟩
        · exact ⟨e, List.mem_cons_of_mem _ he, h⟩
      · rcases List.mem_cons.1 he with rfl | he
        · exact h2
        · exact h3 e he
    · rw [if_neg c] at h1 h2 h3 ⊢
      refine ⟨?_, h2, fun e he => ?_⟩
      · rcases h1 with h | ⟨e, he, h⟩
        · exact .inl h
        · exact .inr ⟨e, List.mem_cons_of_mem _ he, h⟩
      · rcases List.mem_cons.1 he with rfl | he
        · omega
        · exact h3 e he
theorem leastB_spec {l : List S23} (hn : l ≠ []) : (∃ e ∈ l, e.f0 = leastB l) ∧ ∀ e ∈ l, leastB l ≤ e.f0 := by
  match l, hn with
  | a :: t, _ =>
    obtain ⟨h1, h2, h3⟩ := foldB_spec t a.f0
    have e : leastB (a :: t) = foldB a.f0 t := rfl
    rw [e]
    refine ⟨?_, fun y hy => ?_⟩
    · rcases h1 with h | ⟨y, hy, h⟩
      · exact ⟨a, List.mem_cons_self, h.symm⟩
      · exact ⟨y, List.mem_cons_of_mem _ hy, h⟩
    · rcases List.mem_cons.1 hy with rfl | hy
      · exact h2
      · exact h3 y hy
theorem leastB_perm {l l' : List S23} (h : l.Perm l') : leastB l = leastB l' := by
  by_cases hn : l = []
  · subst hn
    rw [List.nil_perm.1 h]
  · have hn' : l' ≠ [] := fun e => hn (by rw [e] at h; exact List.perm_nil.1 h)
    obtain ⟨⟨a, ha, ea⟩, h2⟩ := leastB_spec hn
    obtain ⟨⟨b, hb, eb⟩, h4⟩ := leastB_spec hn'
    have q1 := h2 b (h.mem_iff.2 hb)
    have q2 := h4 a (h.mem_iff.1 ha)
    omega
/-- A heap of one's own that holds xs: what stood at w0 stands. -/
def HSt (w0 w : World) (g : Nat) (r : Option Nat) (o : Int) (xs : List S23) : Prop :=
  (∃ ys, HeapAt w w0.heap.size g r o ys ∧ ys.Perm xs ∧ HeapPure.Ord (lessE o) ys) ∧ Below w0.heap.size w0 w
/-- .. the document's. -/
def RS (w0 w : World) (g : Nat) (r : Option Nat) (o : Int) (xs : List S23) : Prop :=
  (∃ ys, RefAt w w0.heap.size g r o ys ∧ ys.Perm xs) ∧ Below w0.heap.size w0 w
/-- What one works on is not what the other one has. -/
def Sep (g : Nat) (r : Option Nat) (g2 : Nat) (r2 : Option Nat) : Prop := g2 ≠ g ∧ r ≠ some g2 ∧ ∀ k, r2 = some k → k ≠ g ∧ r ≠ some k
theorem Sep.symm {g g2 : Nat} {r r2 : Option Nat} (h : Sep g r g2 r2) : Sep g2 r2 g r :=
  ⟨h.1.symm, fun e => (h.2.2 _ e).1 rfl, fun k hk => ⟨fun e => h.2.1 (by rw [hk, e]), fun e => (h.2.2 _ e).2 hk⟩⟩
theorem Frm.sep {w w' : World} {g g2 : Nat} {r r' r2 : Option Nat} (h : Frm w w' g r r') (hl : g2 < w.heap.size ∧ ∀ k, r2 = some k → k < w.heap.size) (hs : Sep g r g2 r2) : Sep g r' g2 r2 := by
  refine ⟨hs.1, fun e => ?_, fun k hk => ⟨(hs.2.2 k hk).1, fun e => ?_⟩⟩
  · rcases h.row _ e with h | h
    · exact hs.2.1 h
    · omega
  · rcases h.row _ e with h | h
    · exact (hs.2.2 k hk).2 h
    · have := hl.2 k hk
      omega
theorem Frm.kept {w w' : World} {g g2 : Nat} {r r' r2 : Option Nat} (h : Frm w w' g r r') (hl : g2 < w.heap.size ∧ ∀ k, r2 = some k → k < w.heap.size) (hs : Sep g r g2 r2) : w'.heap[g2]? = w.heap[g2]? ∧ ∀ k, r2 = some k → w'.heap[k]? = w.heap[k]? :=
  ⟨h.block _ hl.1 hs.1 (fun e => hs.2.1 e.symm), fun k hk => h.block _ (hl.2 k hk) (hs.2.2 k hk).1 (fun e => (hs.2.2 k hk).2 e.symm)⟩
theorem HeapAt.base {w : World} {base g : Nat} {r : Option Nat} {o : Int} {xs : List S23} (h : HeapAt w base g r o xs) : base ≤ g ∧ ∀ k, r = some k → base ≤ k := by
  obtain ⟨h1, v, h2, h3, h4⟩ := h
  exact ⟨h1, fun k hk => Kd.R_base h4 k (by rw [h3]; exact hk)⟩
theorem RefAt.base {w : World} {base g : Nat} {r : Option Nat} {o : Int} {xs : List S23} (h : RefAt w base g r o xs) : base ≤ g ∧ ∀ k, r = some k → base ≤ k := by
  obtain ⟨h1, v, h2, h3, h4⟩ := h
  exact ⟨h1, fun k hk => Kd.R_base h4 k (by rw [h3]; exact hk)⟩
theorem Frm.bel {w0 w w' : World} {g : Nat} {r r' : Option Nat} (h : Frm w w' g r r') (hb : Below w0.heap.size w0 w) (hg : w0.heap.size ≤ g ∧ ∀ k, r = some k → w0.heap.size ≤ k) : Below w0.heap.size w0 w' :=
  ⟨h.os.trans hb.os, h.tape.trans hb.tape, h.output.trans hb.output, Nat.le_trans hb.size h.size, fun k hk => (h.block k (Nat.lt_of_lt_of_le hk hb.size) (by omega) (fun e => by have := hg.2 k e.symm; omega)).trans (hb.block k hk)⟩
theorem HSt.lt {w0 w : World} {g : Nat} {r : Option Nat} {o : Int} {xs : List S23} (h : HSt w0 w g r o xs) : g < w.heap.size ∧ ∀ k, r = some k → k < w.heap.size := by
  obtain ⟨⟨ys, h1, -, -⟩, -⟩ := h
  exact h1.lt
theorem HSt.base {w0 w : World} {g : Nat} {r : Option Nat} {o : Int} {xs : List S23} (h : HSt w0 w g r o xs) : w0.heap.size ≤ g ∧ ∀ k, r = some k → w0.heap.size ≤ k := by
  obtain ⟨⟨ys, h1, -, -⟩, -⟩ := h
  exact h1.base
theorem RS.lt {w0 w : World} {g : Nat} {r : Option Nat} {o : Int} {xs : List S23} (h : RS w0 w g r o xs) : g < w.heap.size ∧ ∀ k, r = some k → k < w.heap.size := by
  obtain ⟨⟨ys, h1, -⟩, -⟩ := h
  exact h1.lt
theorem RS.base {w0 w : World} {g : Nat} {r : Option Nat} {o : Int} {xs : List S23} (h : RS w0 w g r o xs) : w0.heap.size ≤ g ∧ ∀ k, r = some k → w0.heap.size ≤ k := by
  obtain ⟨⟨ys, h1, -⟩, -⟩ := h
  exact h1.base
theorem HSt.below {w0 w w' : World} {g : Nat} {r : Option Nat} {o : Int} {xs : List S23} (h : HSt w0 w g r o xs) (hb : Below w.heap.size w w') : HSt w0 w' g r o xs := by
  obtain ⟨⟨ys, h1, h2, h3⟩, h4⟩ := h
  exact ⟨⟨ys, h1.below hb, h2, h3⟩, below_step h4 hb⟩
theorem RS.below {w0 w w' : World} {g : Nat} {r : Option Nat} {o : Int} {xs : List S23} (h : RS w0 w g r o xs) (hb : Below w.heap.size w w') : RS w0 w' g r o xs := by
  obtain ⟨⟨ys, h1, h2⟩, h4⟩ := h
  exact ⟨⟨ys, h1.below hb, h2⟩, below_step h4 hb⟩
/-- Another one was worked on. -/
theorem HSt.frm {w0 w w' : World} {g g2 : Nat} {r r' r2 : Option Nat} {o : Int} {xs : List S23} (h : HSt w0 w g2 r2 o xs) (hf : Frm w w' g r r') (hs : Sep g r g2 r2) (hb : Below w0.heap.size w0 w') : HSt w0 w' g2 r2 o xs := by
  have hk := hf.kept h.lt hs
  obtain ⟨⟨ys, h1, h2, h3⟩, h4⟩ := h
  exact ⟨⟨ys, h1.kept hk.1 hk.2, h2, h3⟩, hb⟩
theorem RS.frm {w0 w w' : World} {g g2 : Nat} {r r' r2 : Option Nat} {o : Int} {xs : List S23} (h : RS w0 w g2 r2 o xs) (hf : Frm w w' g r r') (hs : Sep g r g2 r2) (hb : Below w0.heap.size w0 w') : RS w0 w' g2 r2 o xs := by
  have hk := hf.kept h.lt hs
  obtain ⟨⟨ys, h1, h2⟩, h4⟩ := h
  exact ⟨⟨ys, h1.kept hk.1 hk.2, h2⟩, hb⟩
/-- A variable's block was written. -/
theorem HSt.far {w0 w w' : World} {g B : Nat} {r : Option Nat} {o : Int} {xs : List S23} (h : HSt w0 w g r o xs) (hbel : ∀ b w0, Below b w0 w → b ≤ B → Below b w0 w') (hfar : ∀ k, k ≠ B → w'.heap[k]? = w.heap[k]?) (hB : w0.heap.size ≤ B) (hg : g ≠ B) (hr : r ≠ some B) : HSt w0 w' g r o xs := by
  obtain ⟨⟨ys, h1, h2, h3⟩, h4⟩ := h
  exact ⟨⟨ys, h1.kept (hfar _ hg) (fun k hk => hfar k (fun e => hr (by rw [hk, e]))), h2, h3⟩, hbel _ _ h4 hB⟩
theorem RS.far {w0 w w' : World} {g B : Nat} {r : Option Nat} {o : Int} {xs : List S23} (h : RS w0 w g r o xs) (hbel : ∀ b w0, Below b w0 w → b ≤ B → Below b w0 w') (hfar : ∀ k, k ≠ B → w'.heap[k]? = w.heap[k]?) (hB : w0.heap.size ≤ B) (hg : g ≠ B) (hr : r ≠ some B) : RS w0 w' g r o xs := by
  obtain ⟨⟨ys, h1, h2⟩, h4⟩ := h
  exact ⟨⟨ys, h1.kept (hfar _ hg) (fun k hk => hfar k (fun e => hr (by rw [hk, e]))), h2⟩, hbel _ _ h4 hB⟩
theorem HSt.perm {w0 w : World} {g : Nat} {r : Option Nat} {o : Int} {xs zs : List S23} (h : HSt w0 w g r o xs) (hp : xs.Perm zs) : HSt w0 w g r o zs := by
  obtain ⟨⟨ys, h1, h2, h3⟩, h4⟩ := h
  exact ⟨⟨ys, h1, h2.trans hp, h3⟩, h4⟩
theorem RS.perm {w0 w : World} {g : Nat} {r : Option Nat} {o : Int} {xs zs : List S23} (h : RS w0 w g r o xs) (hp : xs.Perm zs) : RS w0 w g r o zs := by
  obtain ⟨⟨ys, h1, h2⟩, h4⟩ := h
  exact ⟨⟨ys, h1, h2.trans hp⟩, h4⟩
theorem HSt.new (o : Int) (w0 w : World) (hb : Below w0.heap.size w0 w) : Calls Try.prog 11 #[.int .i64 o] w fun e w' => e = .returned (.pointer (some ⟨w.heap.size, 0, none⟩)) ∧ HSt w0 w' w.heap.size none o [] ∧ Below w.heap.size w w' :=
  (heap_new o w).mono fun e w' ⟨h1, h2, h3⟩ => ⟨h1, ⟨⟨[], by obtain ⟨h4, v, h5, h6, h7⟩ := h2; exact ⟨hb.size, v, h5, h6, Kd.R_lower h7 hb.size⟩, List.Perm.refl _, fun i _ h => absurd h (Nat.not_lt_zero _)⟩, below_step hb h3⟩, h3⟩
theorem HSt.put (w0 : World) (g : Nat) (r : Option Nat) (o : Int) (xs : List S23) (x : S23) (w : World) (hlen : xs.length ≤ 100000) (h : HSt w0 w g r o xs) :
    Calls Try.prog 12 #[.pointer (some ⟨g, 0, none⟩), .agg #[.int .i64 x.f0, .int .i64 x.f1, .int .i64 x.f2]] w fun e w' => e = .returned (.tuple #[]) ∧ ∃ r', HSt w0 w' g r' o (xs ++ [x]) ∧ Frm w w' g r r' := by
  obtain ⟨⟨ys, h1, h2, h3⟩, h4⟩ := h
  refine (heap_put w0.heap.size g r o ys x w h4.size (by rw [h2.length_eq]; exact hlen) h1).mono ?_
  rintro e w' ⟨rfl, r', zs, g1, g2, g3, g4⟩
  exact ⟨rfl, r', ⟨⟨zs, g1, g2.trans (h2.append_right _), g3 h3⟩, g4.frm.bel h4 h1.base⟩, g4.frm⟩
theorem HSt.take_nil (w0 : World) (g : Nat) (r : Option Nat) (o : Int) (w : World) (h : HSt w0 w g r o []) :
    Calls Try.prog 13 #[.pointer (some ⟨g, 0, none⟩)] w fun e w' => e = .returned (.tuple #[.agg #[.int .i64 0, .int .i64 0, .int .i64 0], .bool false]) ∧ HSt w0 w' g r o [] ∧ Frm w w' g r r := by
  obtain ⟨⟨ys, h1, h2, h3⟩, h4⟩ := h
  obtain rfl := List.perm_nil.1 h2
  refine (heap_take_nil w0.heap.size g r o w h4.size h1).mono ?_
  rintro e w' ⟨rfl, g1, g2⟩
  exact ⟨rfl, ⟨⟨[], g1, List.Perm.refl _, h3⟩, g2.frm.bel h4 h1.base⟩, g2.frm⟩
theorem HSt.take_cons (w0 : World) (g : Nat) (r : Option Nat) (o : Int) (xs : List S23) (w : World) (hpos : 0 < xs.length) (hlen : xs.length ≤ 100000) (h : HSt w0 w g r o xs) :
    Calls Try.prog 13 #[.pointer (some ⟨g, 0, none⟩)] w fun e w' => ∃ (x : S23) (t : List S23), e = .returned (.tuple #[.agg #[.int .i64 x.f0, .int .i64 x.f1, .int .i64 x.f2], .bool true]) ∧ xs.Perm (x :: t) ∧ (∀ y ∈ xs, lessE o y x = false) ∧ HSt w0 w' g r o t ∧ Frm w w' g r r := by
  obtain ⟨⟨ys, h1, h2, h3⟩, h4⟩ := h
  match ys, h2, h1, h3 with
  | [], h2, _, _ =>
    rw [List.nil_perm.1 h2] at hpos
    exact absurd hpos (Nat.lt_irrefl 0)
  | x :: t, h2, h1, h3 =>
    have hl := h2.length_eq
    rw [List.length_cons] at hl
    refine (heap_take_cons w0.heap.size g r o x t w h4.size (by omega) h1).mono ?_
    rintro e w' ⟨zs, rfl, g1, g2, g3, g4⟩
    refine ⟨x, t, rfl, h2.symm, fun y hy => ?_, ⟨⟨zs, g1, g2, g3 h3⟩, g4.frm.bel h4 h1.base⟩, g4.frm⟩
    exact h3.first_mem (less_strict o) (h2.mem_iff.2 hy)
theorem HSt.len (w0 : World) (g : Nat) (r : Option Nat) (o : Int) (xs : List S23) (w : World) (h : HSt w0 w g r o xs) : Calls Try.prog 16 #[.pointer (some ⟨g, 0, none⟩)] w fun e w' => e = .returned (.int .i64 (xs.length : Int)) ∧ w' = w := by
  obtain ⟨⟨ys, h1, h2, h3⟩, h4⟩ := h
  refine (heap_len w0.heap.size g r o ys w h1).mono ?_
  rintro e w' ⟨rfl, rfl⟩
  exact ⟨by rw [h2.length_eq], rfl⟩
theorem HSt.least (w0 : World) (g : Nat) (r : Option Nat) (o : Int) (xs : List S23) (w : World) (hlen : xs.length ≤ 200000) (h : HSt w0 w g r o xs) : Calls Try.prog 17 #[.pointer (some ⟨g, 0, none⟩)] w fun e w' => e = .returned (.int .i64 (leastB xs)) ∧ Below w.heap.size w w' := by
  obtain ⟨⟨ys, h1, h2, h3⟩, h4⟩ := h
  refine (heap_least w0.heap.size g r o ys w (by rw [h2.length_eq]; exact hlen) h1).mono ?_
  rintro e w' ⟨rfl, hb⟩
  exact ⟨by rw [leastB_perm h2], hb⟩
theorem RS.put (w0 : World) (g : Nat) (r : Option Nat) (o : Int) (xs : List S23) (x : S23) (w : World) (hlen : xs.length ≤ 100000) (h : RS w0 w g r o xs) :
    Calls Try.prog 14 #[.pointer (some ⟨g, 0, none⟩), .agg #[.int .i64 x.f0, .int .i64 x.f1, .int .i64 x.f2]] w fun e w' => e = .returned (.tuple #[]) ∧ ∃ r', RS w0 w' g r' o (xs ++ [x]) ∧ Frm w w' g r r' := by
  obtain ⟨⟨ys, h1, h2⟩, h4⟩ := h
  refine (ref_put w0.heap.size g r o ys x w h4.size (by rw [h2.length_eq]; exact hlen) h1).mono ?_
  rintro e w' ⟨rfl, r', g1, g4⟩
  exact ⟨rfl, r', ⟨⟨_, g1, h2.append_right _⟩, g4.bel h4 h1.base⟩, g4⟩
theorem RS.take_nil (w0 : World) (g : Nat) (r : Option Nat) (o : Int) (w : World) (h : RS w0 w g r o []) :
    Calls Try.prog 15 #[.pointer (some ⟨g, 0, none⟩)] w fun e w' => e = .returned (.tuple #[.agg #[.int .i64 0, .int .i64 0, .int .i64 0], .bool false]) ∧ ∃ r', RS w0 w' g r' o [] ∧ Frm w w' g r r' := by
  obtain ⟨⟨ys, h1, h2⟩, h4⟩ := h
  obtain rfl := List.perm_nil.1 h2
  refine (ref_take_nil w0.heap.size g r o w h1).mono ?_
  rintro e w' ⟨rfl, g1, g2⟩
  exact ⟨rfl, r, ⟨⟨[], g1, List.Perm.refl _⟩, g2.bel h4 h1.base⟩, g2⟩
theorem RS.take_cons (w0 : World) (g : Nat) (r : Option Nat) (o : Int) (xs : List S23) (w : World) (hpos : 0 < xs.length) (hlen : xs.length ≤ 100000) (h : RS w0 w g r o xs) :
    Calls Try.prog 15 #[.pointer (some ⟨g, 0, none⟩)] w fun e w' => ∃ (x : S23) (t : List S23), e = .returned (.tuple #[.agg #[.int .i64 x.f0, .int .i64 x.f1, .int .i64 x.f2], .bool true]) ∧ xs.Perm (x :: t) ∧ (∀ y ∈ xs, lessE o y x = false) ∧ ∃ r', RS w0 w' g r' o t ∧ Frm w w' g r r' := by
  obtain ⟨⟨ys, h1, h2⟩, h4⟩ := h
  refine (ref_take_cons w0.heap.size g r o ys w h4.size (by rw [h2.length_eq]; exact hpos) (by rw [h2.length_eq]; exact hlen) h1).mono ?_
  rintro e w' ⟨m, hm, hmin, rfl, r', g1, g2⟩
  refine ⟨ys[m], _, rfl, ?_, fun y hy => hmin y (h2.mem_iff.2 hy), r', ⟨⟨_, g1, List.Perm.refl _⟩, g2.bel h4 h1.base⟩, g2⟩
  refine h2.symm.trans ?_
  have e : ys = ys.take m ++ ys[m] :: ys.drop (m + 1) := by
    rw [List.getElem_cons_drop, List.take_append_drop]
  conv => lhs; rw [e]
  exact List.perm_middle
theorem RS.least (w0 : World) (g : Nat) (r : Option Nat) (o : Int) (xs : List S23) (w : World) (hlen : xs.length ≤ 200000) (h : RS w0 w g r o xs) : Calls Try.prog 18 #[.pointer (some ⟨g, 0, none⟩)] w fun e w' => e = .returned (.int .i64 (leastB xs)) ∧ Below w.heap.size w w' := by
  obtain ⟨⟨ys, h1, h2⟩, h4⟩ := h
  have hl : ys.length ≤ 200000 := by rw [h2.length_eq]; exact hlen
  rw [← leastB_perm h2]
  match ys, h1, hl with
  | [], h1, _ => exact ref_least_nil w0.heap.size g r o w h1
  | x :: t, h1, hl => exact ref_least_cons w0.heap.size g r o x t w hl h1
theorem HSt.take_known (w0 : World) (g : Nat) (r : Option Nat) (o : Int) (xs : List S23) (x : S23) (t : List S23) (w : World) (hlen : xs.length ≤ 100000) (h : HSt w0 w g r o xs) (hp : xs.Perm (x :: t)) (hm : ∀ y ∈ xs, lessE o y x = false) :
    Calls Try.prog 13 #[.pointer (some ⟨g, 0, none⟩)] w fun e w' => e = .returned (.tuple #[.agg #[.int .i64 x.f0, .int .i64 x.f1, .int .i64 x.f2], .bool true]) ∧ HSt w0 w' g r o t ∧ Frm w w' g r r := by
  refine (HSt.take_cons w0 g r o xs w (by rw [hp.length_eq]; exact Nat.zero_lt_succ _) hlen h).mono ?_
  rintro e w' ⟨x', t', rfl, g1, g2, g3, g4⟩
  obtain rfl : x' = x := least_one (g1.mem_iff.2 List.mem_cons_self) (hp.mem_iff.2 List.mem_cons_self) g2 hm
  exact ⟨rfl, g3.perm (List.Perm.cons_inv (g1.symm.trans hp)), g4⟩
theorem less_r {o : Int} {a b : S23} {r : Bool} (h : lessE o a b = r) (w : World) : Calls Try.prog 10 #[.int .i64 o, .agg #[.int .i64 a.f0, .int .i64 a.f1, .int .i64 a.f2], .agg #[.int .i64 b.f0, .int .i64 b.f1, .int .i64 b.f2]] w fun e w' => e = .returned (.bool r) ∧ Below w.heap.size w w' := by
  subst h
  exact heap_Less.calls 5 _ _ _ _ _ _ _ _ _ (less_eq o a b)
theorem at_C {w : World} {A : Option Addr} {xs : List S23} (h : Kd.C k23 w A xs.length xs) (i : Nat) (hi : i < xs.length) : ∃ ad, A = some ad ∧ w.cell? (ad.add (i * 3)) = some (.int .i64 xs[i].f0) ∧ w.cell? ⟨(ad.add (i * 3)).block, (ad.add (i * 3)).off + 1, none⟩ = some (.int .i64 xs[i].f1) ∧ w.cell? ⟨(ad.add (i * 3)).block, (ad.add (i * 3)).off + 2, none⟩ = some (.int .i64 xs[i].f2) := by
  obtain ⟨ad, e, h0, h1, h2⟩ := at_T23 h (i : Int) (by omega) (by omega)
  have hx : rd_T23 xs (i : Int) = xs[i] := by unfold rd_T23; rw [Int.toNat_natCast]; simp [List.getD, List.getElem?_eq_getElem hi]
  rw [hx, Int.toNat_natCast] at h0 h1 h2
  exact ⟨ad, e, h0, h1, h2⟩
def eqE (a b : S23) : Bool := a.f0 == b.f0 && (a.f1 == b.f1 && a.f2 == b.f2)
theorem eqc (a b : S23) : (eqE a b = true ∧ (a.f0 == b.f0) = true ∧ (a.f1 == b.f1) = true ∧ (a.f2 == b.f2) = true) ∨ (eqE a b = false ∧ (a.f0 == b.f0) = false) ∨ (eqE a b = false ∧ (a.f0 == b.f0) = true ∧ (a.f1 == b.f1) = false) ∨ (eqE a b = false ∧ (a.f0 == b.f0) = true ∧ (a.f1 == b.f1) = true ∧ (a.f2 == b.f2) = false) := by
  unfold eqE
  cases a.f0 == b.f0 <;> cases a.f1 == b.f1 <;> cases a.f2 == b.f2 <;> simp
theorem exists_least (o : Int) (t : List S23) : t ≠ [] → ∃ x t', t.Perm (x :: t') ∧ ∀ y ∈ t, lessE o y x = false := by
  induction t with
  | nil => intro h; exact absurd rfl h
  | cons a t ih =>
    intro _
    by_cases ht : t = []
    · subst ht
      exact ⟨a, [], List.Perm.refl _, fun y hy => by rw [List.mem_singleton.1 hy]; exact (less_strict o).irr _⟩
    · obtain ⟨x, t', hp, hm⟩ := ih ht
      cases hl : lessE o a x with
      | true =>
        refine ⟨a, t, List.Perm.refl _, fun y hy => ?_⟩
        rcases List.mem_cons.1 hy with rfl | hy
        · exact (less_strict o).irr _
        · exact (less_strict o).ntr (hm y hy) ((less_strict o).asym hl)
      | false =>
        refine ⟨x, a :: t', (hp.cons a).trans (List.Perm.swap _ _ _), fun y hy => ?_⟩
        rcases List.mem_cons.1 hy with rfl | hy
        · exact hl
        · exact hm y hy
def wakeL : List S23 := [⟨0, 1, 0⟩, ⟨0, 3, 1⟩, ⟨0, 2, 2⟩]
theorem wake1 : wakeL.Perm [⟨0, 3, 1⟩, ⟨0, 1, 0⟩, ⟨0, 2, 2⟩] := List.Perm.swap _ _ _
theorem wake2 : ∀ y ∈ wakeL, lessE 1 y ⟨0, 3, 1⟩ = false := by
  intro y hy
  simp only [wakeL, List.mem_cons, List.mem_nil_iff, or_false] at hy
  rcases hy with rfl | rfl | rfl <;> decide
theorem wake3 : ([⟨0, 1, 0⟩, ⟨0, 2, 2⟩] : List S23).Perm [⟨0, 2, 2⟩, ⟨0, 1, 0⟩] := List.Perm.swap _ _ _
theorem wake4 : ∀ y ∈ ([⟨0, 1, 0⟩, ⟨0, 2, 2⟩] : List S23), lessE 1 y ⟨0, 2, 2⟩ = false := by
  intro y hy
  simp only [List.mem_cons, List.mem_nil_iff, or_false] at hy
  rcases hy with rfl | rfl <;> decide
theorem awake_true (w : World) : Calls Try.prog 9 #[] w fun e w' => e = .returned (.bool true) ∧ Below w.heap.size w w' := by
  go_enter Try.func9, Try.ntmps9
  go_wp2_with (go_at_call 11; (with_reducible refine (HSt.new 1 w _ (Below.refl _ _)).mono ?_); rintro e w1 ⟨rfl, h1, h2⟩; have H1 := hidH h1; have HB1 := hidH h2; clear h1 h2)
  go_loopg [2] 4 (fun kq v2 wr => ∃ (i : Nat) (r : Option Nat), Hid (kq = 4 - i) ∧ v2 = .int .i64 (i : Int) ∧ i ≤ 3 ∧ Hid (HSt w wr w.heap.size r 1 (wakeL.take i)))
  case atStart => exact ⟨0, none, hidH rfl, rfl, by omega, H1⟩
  case round =>
    obtain ⟨i, r, HI, rfl, hi, HS_⟩ := hrel
    rcases (show i = 0 ∨ i = 1 ∨ i = 2 ∨ i = 3 by omega) with rfl | rfl | rfl | rfl
    · go_wp2_with (go_at_call 12; (with_reducible refine (HSt.put w w.heap.size r 1 (wakeL.take 0) ⟨0, 1, 0⟩ _ (by decide) HS_.out).mono ?_); rintro e w2 ⟨rfl, r', h1, h2⟩; have H2 := hidH h1; clear h1 h2)
      go_roundg 3
      case measure => have := HI.out; omega
      case rel => exact ⟨1, r', hidH rfl, by go_num, by omega, H2⟩
    · go_wp2_with (go_at_call 12; (with_reducible refine (HSt.put w w.heap.size r 1 (wakeL.take 1) ⟨0, 3, 1⟩ _ (by decide) HS_.out).mono ?_); rintro e w2 ⟨rfl, r', h1, h2⟩; have H2 := hidH h1; clear h1 h2)
      go_roundg 2
      case measure => have := HI.out; omega
      case rel => exact ⟨2, r', hidH rfl, by go_num, by omega, H2⟩
    · go_wp2_with (go_at_call 12; (with_reducible refine (HSt.put w w.heap.size r 1 (wakeL.take 2) ⟨0, 2, 2⟩ _ (by decide) HS_.out).mono ?_); rintro e w2 ⟨rfl, r', h1, h2⟩; have H2 := hidH h1; clear h1 h2)
      go_roundg 1
      case measure => have := HI.out; omega
      case rel => exact ⟨3, r', hidH rfl, by go_num, by omega, H2⟩
    · have HS3 : Hid (HSt w wr w.heap.size r 1 wakeL) := HS_
      have hl3 : wakeL.length ≤ 100000 := by decide
      have hl2 : ([⟨0, 1, 0⟩, ⟨0, 2, 2⟩] : List S23).length ≤ 100000 := by decide
      go_wp2_with (first | (go_at_call 13; first | ((with_reducible refine (HSt.take_known w w.heap.size r 1 wakeL ⟨0, 3, 1⟩ [⟨0, 1, 0⟩, ⟨0, 2, 2⟩] wr hl3 HS3.out wake1 wake2).mono ?_); rintro e w2 ⟨rfl, h1, h2⟩; have H2 := hidH (h1.below (below_alloc (Below.refl _ _) (.cells #[.int .i64 0, .int .i64 3, .int .i64 1] 23))); have HL2 := hidH h1.lt; have HX2 := hidH (blk_new w2 (.cells #[.int .i64 0, .int .i64 3, .int .i64 1] 23)); clear h1 h2) |
        ((with_reducible refine (HSt.take_known w w.heap.size r 1 [⟨0, 1, 0⟩, ⟨0, 2, 2⟩] ⟨0, 2, 2⟩ [⟨0, 1, 0⟩] _ hl2 H2.out wake3 wake4).mono ?_); rintro e w3 ⟨rfl, h1, h2⟩; have H3 := hidH (h1.below (below_alloc (Below.refl _ _) (.cells #[.int .i64 0, .int .i64 2, .int .i64 2] 23))); have HX3 := hidH (blk_alloc ((h2.block w2.heap.size (by rw [World.size_alloc]; omega) (by have := HL2.out.1; omega) (fun e => Nat.lt_irrefl _ (HL2.out.2 _ e.symm))).trans HX2.out) (.cells #[.int .i64 0, .int .i64 2, .int .i64 2] 23)); obtain ⟨-, x1, -⟩ := zqz3 HX3.out; clear h1 h2)) |
        (go_at_call 16; (with_reducible refine (HSt.len w w.heap.size r 1 [⟨0, 1, 0⟩] _ H3.out).mono ?_); rintro e w4 ⟨rfl, e4⟩; subst e4))
      go_ret
      exact ⟨rfl, H3.out.2⟩

end Go.Proofs.Ytjlfejgblhgceaa.PB
