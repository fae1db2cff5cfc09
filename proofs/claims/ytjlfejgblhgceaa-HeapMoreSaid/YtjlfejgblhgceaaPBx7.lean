-- Printed for this claim by wip/tools/xprint.py over the kit's print; the contracts marked BY HAND are this session's own.
import Derived.Test.YtjlfejgblhgceaaPBx0
import Derived.Test.YtjlfejgblhgceaaPBx1
import Derived.Test.YtjlfejgblhgceaaPBx2
import Derived.Test.YtjlfejgblhgceaaPBx4
import Derived.Test.YtjlfejgblhgceaaPBx5
namespace Go.Proofs.Ytjlfejgblhgceaa.PB
open Go.RowKit Go.Proofs.YtjlfejgblhgceaaW.PrintWords Go.Proofs.YtjlfejgblhgceaaW.PrintLast Go.Proofs.YtjlfejgblhgceaaW.PrintMore
attribute [local go_sem] max2_int min2_int max_two min_two max_three min_three max_four min_four   -- for this text's walks alone
set_option linter.unusedVariables false
set_option linter.unusedSimpArgs false

/-! ### haulierlaw03_HeapMore: function 4, BY HAND -/
/-- Two heaps, apart. -/
def HPr (w0 w : World) (ga : Nat) (ra : Option Nat) (gb : Nat) (rb : Option Nat) (o : Int) (xs zs : List S23) : Prop := HSt w0 w ga ra o xs ∧ HSt w0 w gb rb o zs ∧ Sep ga ra gb rb
theorem HPr.symm {w0 w : World} {ga : Nat} {ra : Option Nat} {gb : Nat} {rb : Option Nat} {o : Int} {xs zs : List S23} (h : HPr w0 w ga ra gb rb o xs zs) : HPr w0 w gb rb ga ra o zs xs := ⟨h.2.1, h.1, h.2.2.symm⟩
theorem HPr.below {w0 w w' : World} {ga : Nat} {ra : Option Nat} {gb : Nat} {rb : Option Nat} {o : Int} {xs zs : List S23} (h : HPr w0 w ga ra gb rb o xs zs) (hb : Below w.heap.size w w') : HPr w0 w' ga ra gb rb o xs zs := ⟨h.1.below hb, h.2.1.below hb, h.2.2⟩
theorem HPr.perm {w0 w : World} {ga : Nat} {ra : Option Nat} {gb : Nat} {rb : Option Nat} {o : Int} {xs zs xs' zs' : List S23} (h : HPr w0 w ga ra gb rb o xs zs) (h1 : xs.Perm xs') (h2 : zs.Perm zs') : HPr w0 w ga ra gb rb o xs' zs' := ⟨h.1.perm h1, h.2.1.perm h2, h.2.2⟩
theorem HPr.put (w0 : World) (ga : Nat) (ra : Option Nat) (gb : Nat) (rb : Option Nat) (o : Int) (xs zs : List S23) (x : S23) (w : World) (hlen : xs.length ≤ 100000) (h : HPr w0 w ga ra gb rb o xs zs) :
    Calls Try.prog 12 #[.pointer (some ⟨ga, 0, none⟩), .agg #[.int .i64 x.f0, .int .i64 x.f1, .int .i64 x.f2]] w fun e w' => e = .returned (.tuple #[]) ∧ ∃ r', HPr w0 w' ga r' gb rb o (xs ++ [x]) zs :=
  (HSt.put w0 ga ra o xs x w hlen h.1).mono fun e w' ⟨h1, r', h2, h3⟩ => ⟨h1, r', h2, h.2.1.frm h3 h.2.2 h2.2, h3.sep h.2.1.lt h.2.2⟩
theorem HPr.putB (w0 : World) (ga : Nat) (ra : Option Nat) (gb : Nat) (rb : Option Nat) (o : Int) (xs zs : List S23) (x : S23) (w : World) (hlen : zs.length ≤ 100000) (h : HPr w0 w ga ra gb rb o xs zs) :
    Calls Try.prog 12 #[.pointer (some ⟨gb, 0, none⟩), .agg #[.int .i64 x.f0, .int .i64 x.f1, .int .i64 x.f2]] w fun e w' => e = .returned (.tuple #[]) ∧ ∃ r', HPr w0 w' ga ra gb r' o xs (zs ++ [x]) :=
  (HPr.put w0 gb rb ga ra o zs xs x w hlen h.symm).mono fun e w' ⟨h1, r', h2⟩ => ⟨h1, r', h2.symm⟩
theorem HPr.take (w0 : World) (ga : Nat) (ra : Option Nat) (gb : Nat) (rb : Option Nat) (o : Int) (xs zs : List S23) (x : S23) (t : List S23) (w : World) (hlen : xs.length ≤ 100000) (h : HPr w0 w ga ra gb rb o xs zs) (hp : xs.Perm (x :: t)) (hm : ∀ y ∈ xs, lessE o y x = false) :
    Calls Try.prog 13 #[.pointer (some ⟨ga, 0, none⟩)] w fun e w' => e = .returned (.tuple #[.agg #[.int .i64 x.f0, .int .i64 x.f1, .int .i64 x.f2], .bool true]) ∧ HPr w0 w' ga ra gb rb o t zs ∧ Frm w w' ga ra ra :=
  (HSt.take_known w0 ga ra o xs x t w hlen h.1 hp hm).mono fun e w' ⟨h1, h2, h3⟩ => ⟨h1, ⟨h2, h.2.1.frm h3 h.2.2 h2.2, h3.sep h.2.1.lt h.2.2⟩, h3⟩
theorem HPr.takeB (w0 : World) (ga : Nat) (ra : Option Nat) (gb : Nat) (rb : Option Nat) (o : Int) (xs zs : List S23) (x : S23) (t : List S23) (w : World) (hlen : zs.length ≤ 100000) (h : HPr w0 w ga ra gb rb o xs zs) (hp : zs.Perm (x :: t)) (hm : ∀ y ∈ zs, lessE o y x = false) :
    Calls Try.prog 13 #[.pointer (some ⟨gb, 0, none⟩)] w fun e w' => e = .returned (.tuple #[.agg #[.int .i64 x.f0, .int .i64 x.f1, .int .i64 x.f2], .bool true]) ∧ HPr w0 w' ga ra gb rb o xs t ∧ Frm w w' gb rb rb :=
  (HPr.take w0 gb rb ga ra o zs xs x t w hlen h.symm hp hm).mono fun e w' ⟨h1, h2, h3⟩ => ⟨h1, h2.symm, h3⟩
theorem HPr.take0 (w0 : World) (ga : Nat) (ra : Option Nat) (gb : Nat) (rb : Option Nat) (o : Int) (zs : List S23) (w : World) (h : HPr w0 w ga ra gb rb o [] zs) :
    Calls Try.prog 13 #[.pointer (some ⟨ga, 0, none⟩)] w fun e w' => e = .returned (.tuple #[.agg #[.int .i64 0, .int .i64 0, .int .i64 0], .bool false]) ∧ HPr w0 w' ga ra gb rb o [] zs ∧ Frm w w' ga ra ra :=
  (HSt.take_nil w0 ga ra o w h.1).mono fun e w' ⟨h1, h2, h3⟩ => ⟨h1, ⟨h2, h.2.1.frm h3 h.2.2 h2.2, h3.sep h.2.1.lt h.2.2⟩, h3⟩
theorem HPr.take0B (w0 : World) (ga : Nat) (ra : Option Nat) (gb : Nat) (rb : Option Nat) (o : Int) (xs : List S23) (w : World) (h : HPr w0 w ga ra gb rb o xs []) :
    Calls Try.prog 13 #[.pointer (some ⟨gb, 0, none⟩)] w fun e w' => e = .returned (.tuple #[.agg #[.int .i64 0, .int .i64 0, .int .i64 0], .bool false]) ∧ HPr w0 w' ga ra gb rb o xs [] ∧ Frm w w' gb rb rb :=
  (HPr.take0 w0 gb rb ga ra o xs w h.symm).mono fun e w' ⟨h1, h2, h3⟩ => ⟨h1, h2.symm, h3⟩
theorem HPr.new (o : Int) (w0 w : World) (ga : Nat) (ra : Option Nat) (h : HSt w0 w ga ra o []) : Calls Try.prog 11 #[.int .i64 o] w fun e w' => e = .returned (.pointer (some ⟨w.heap.size, 0, none⟩)) ∧ HPr w0 w' ga ra w.heap.size none o [] [] ∧ Below w.heap.size w w' :=
  (HSt.new o w0 w h.2).mono fun e w' ⟨h1, h2, h3⟩ => ⟨h1, ⟨h.below h3, h2, ⟨by have := h.lt.1; omega, fun e => by have := h.lt.2 _ e; omega, fun k hk => by cases hk⟩⟩, h3⟩
theorem more_law (a0 : Int) (A1 : Option Addr) (c1 : Nat) (l1 : List S23) (A2 : Option Addr) (c2 : Nat) (l2 : List S23) (w : World) (hr1 : Kd.C k23 w A1 l1.length l1) (hr2 : Kd.C k23 w A2 l2.length l2) : Calls Try.prog 4 #[.int .i64 a0, .slice A1 l1.length c1, .slice A2 l2.length c2] w fun e w' => e = .returned (.bool true) ∧ Below w.heap.size w w' := by
  have HR1 := hidH hr1
  have hmax1 := Kd.C_max hr1
  have HR2 := hidH hr2
  have hmax2 := Kd.C_max hr2
  clear hr1 hr2
  by_cases h1 : l1.length ≤ 100
  · by_cases h2 : l2.length ≤ 100
    · skip
      have l1p0 : decide ((l1.length : Int) > 100) = false := decide_eq_false (by omega)
      have l1p1 : decide (l1.length > 100) = false := decide_eq_false (by omega)
      have l1p2 : decide (100 < l1.length) = false := decide_eq_false (by omega)
      have l2p0 : decide ((l2.length : Int) > 100) = false := decide_eq_false (by omega)
      have l2p1 : decide (l2.length > 100) = false := decide_eq_false (by omega)
      have l2p2 : decide (100 < l2.length) = false := decide_eq_false (by omega)
      go_enter Try.func4, Try.ntmps4
      go_wp2_with (first | (go_at_call 9; (with_reducible refine (awake_true _).mono ?_); rintro e wa ⟨rfl, hb⟩; have HB := hidH hb; clear hb) | (go_at_call 11; first | ((with_reducible refine (HSt.new a0 wa wa (Below.refl _ _)).mono ?_); rintro e w1 ⟨rfl, h1, h2⟩; have H1 := hidH h1; clear h1 h2) | ((with_reducible refine (HPr.new a0 wa w1 wa.heap.size none H1.out).mono ?_); rintro e w3 ⟨rfl, h1, h2⟩; have H3 := hidH h1; clear h1 h2)))
      go_loopg [10] l1.length (fun kq v10 wr => ∃ (i : Nat) (ra : Option Nat), Hid (kq = l1.length - i) ∧ v10 = .int .i64 (i : Int) ∧ i ≤ l1.length ∧ Hid (HPr wa wr wa.heap.size ra w1.heap.size none a0 (l1.take i) []))
      case atStart => exact ⟨0, none, hidH rfl, rfl, by omega, H3⟩
      case round =>
        obtain ⟨i, ra, HI, rfl, hi, HH1⟩ := hrel
        by_cases hlt : i < l1.length
        · skip
          have t1 : decide ((i : Int) < (l1.length : Int)) = true := decide_eq_true (by omega)
          have t1n : decide (i < l1.length) = true := decide_eq_true (by omega)
          have q1 : ((i : Int) < (l1.length : Int)) = True := eq_true (by omega)
          have q2 : ((0 : Int) ≤ (i : Int)) = True := eq_true (by omega)
          have q3 : (i < l1.length) = True := eq_true (by omega)
          obtain ⟨ad, e1, x0, x1, x2⟩ := at_C (Kd.C_below HR1.out (below_step HB.out HH1.out.1.2)) i hlt
          cases e1
          have hl1 : (l1.take i).length ≤ 100000 := by rw [List.length_take]; omega
          go_wp2_with ((go_at_call 12; (with_reducible refine (HPr.put wa wa.heap.size ra w1.heap.size none a0 (l1.take i) [] l1[i] _ hl1 HH1.out).mono ?_); rintro e HM0w ⟨rfl, HM0r, h1⟩; have HM0 := hidH h1; clear h1))
          go_roundg (l1.length - (i + 1))
          case measure => have := HI.out; omega
          case rel => exact ⟨i + 1, HM0r, hidH rfl, by go_num, by omega, hidH (by have h_ := HM0.out; rwa [← List.take_succ_eq_append_getElem hlt] at h_)⟩
        · skip
          have t1 : decide ((i : Int) < (l1.length : Int)) = false := decide_eq_false (by omega)
          have t1n : decide (i < l1.length) = false := decide_eq_false (by omega)
          have HH2 : Hid (HPr wa wr wa.heap.size ra w1.heap.size none a0 l1 []) := hidH (by have h_ := HH1.out; rwa [List.take_of_length_le (by omega)] at h_)
          clear HH1 HI
          by_cases hn : l1 = []
          · have HQ0 : Hid (HPr wa wr wa.heap.size ra w1.heap.size none a0 [] []) := hidH (by have h_ := HH2.out; rwa [hn] at h_)
            have HNN := hidH hn
            clear hn
            go_wp2_with (go_at_call 13; (with_reducible refine (HPr.take0 wa wa.heap.size ra w1.heap.size none a0 [] wr HQ0.out).mono ?_); rintro e w4 ⟨rfl, h1, h2⟩; have HQ1 := hidH (h1.below (below_alloc (Below.refl _ _) (.cells #[.int .i64 0, .int .i64 0, .int .i64 0] 23))); clear h1 h2)
            have HQ := hidH (show HPr wa (w4.alloc (.cells #[.int .i64 0, .int .i64 0, .int .i64 0] 23)) wa.heap.size ra w1.heap.size none a0 (l1 ++ l2.reverse.take 0) (l2.take 0) by rw [HNN.out]; exact HQ1.out)
            go_loopg [13] l2.length (fun kq v13 wr => ∃ (i : Nat) (ra rb : Option Nat), Hid (kq = l2.length - i) ∧ v13 = .int .i64 (i : Int) ∧ i ≤ l2.length ∧ Hid (HPr wa wr wa.heap.size ra w1.heap.size rb a0 (l1 ++ l2.reverse.take i) (l2.take i)))
            case atStart => exact ⟨0, _, none, hidH rfl, rfl, by omega, HQ⟩
            case round =>
              clear t1 t1n
              obtain ⟨i, ra, rb, HI, rfl, hi, HH2⟩ := hrel
              by_cases hlt : i < l2.length
              · skip
                have t1 : decide ((i : Int) < (l2.length : Int)) = true := decide_eq_true (by omega)
                have t1n : decide (i < l2.length) = true := decide_eq_true (by omega)
                have q1 : ((i : Int) < (l2.length : Int)) = True := eq_true (by omega)
                have q2 : ((0 : Int) ≤ (i : Int)) = True := eq_true (by omega)
                have q3 : (i < l2.length) = True := eq_true (by omega)
                obtain ⟨k, hk⟩ : ∃ k, k = l2.length - 1 - i := ⟨_, rfl⟩
                have hkl : k < l2.length := by omega
                have e1 : (l2.length : Int) - 1 - (i : Int) = (k : Int) := by omega
                have k1 : ((k : Int) < (l2.length : Int)) = True := eq_true (by omega)
                have k2 : ((0 : Int) ≤ (k : Int)) = True := eq_true (by omega)
                have k3 : (k < l2.length) = True := eq_true hkl
                obtain ⟨ad, e2, x0, x1, x2⟩ := at_C (Kd.C_below HR2.out (below_step HB.out HH2.out.1.2)) k hkl
                cases e2
                have HK := hidH hk
                clear hk
                have hll : (l1 ++ l2.reverse.take i).length ≤ 100000 := by rw [List.length_append, List.length_take]; omega
                have hlz : (l2.take i).length ≤ 100000 := by rw [List.length_take]; omega
                go_wp2_with (first | ((go_at_call 12; (with_reducible refine (HPr.put wa wa.heap.size ra w1.heap.size rb a0 (l1 ++ l2.reverse.take i) (l2.take i) l2[k] _ hll HH2.out).mono ?_); rintro e HM1w ⟨rfl, HM1r, h1⟩; have HM1 := hidH h1; clear h1); obtain ⟨ad', e3, y0, y1, y2⟩ := at_C (Kd.C_below HR2.out (below_step HB.out HM1.out.1.2)) i hlt; obtain rfl := Option.some.inj e3) | (go_at_call 12; (with_reducible refine (HPr.putB wa wa.heap.size _ w1.heap.size rb a0 _ (l2.take i) l2[i] _ hlz HM1.out).mono ?_); rintro e HM2w ⟨rfl, HM2r, h1⟩; have HM2 := hidH h1; clear h1))
                go_roundg (l2.length - (i + 1))
                case measure => have := HI.out; omega
                case rel => exact ⟨i + 1, HM1r, HM2r, hidH rfl, by go_num, by omega, hidH (by
                  have h_ := HM2.out
                  rw [← List.take_succ_eq_append_getElem hlt, List.append_assoc] at h_
                  have h3 : l2.reverse.take i ++ [l2[k]] = l2.reverse.take (i + 1) := by
                    rw [List.take_succ_eq_append_getElem (by rw [List.length_reverse]; exact hlt), List.getElem_reverse]
                    simp only [HK.out]
                  rwa [h3] at h_)⟩
              · skip
                have t1 : decide ((i : Int) < (l2.length : Int)) = false := decide_eq_false (by omega)
                have t1n : decide (i < l2.length) = false := decide_eq_false (by omega)
                have HH3 : Hid (HPr wa wr wa.heap.size ra w1.heap.size rb a0 (l1 ++ l2.reverse) l2) := hidH (by have h_ := HH2.out; rwa [List.take_of_length_le (by rw [List.length_reverse]; omega), List.take_of_length_le (by omega)] at h_)
                go_wp2
                go_loopg [14] l1.length (fun kq v14 wr => ∃ (i : Nat) (rb : Option Nat), Hid (kq = l1.length - i) ∧ v14 = .int .i64 (i : Int) ∧ i ≤ l1.length ∧ Hid (HPr wa wr wa.heap.size ra w1.heap.size rb a0 (l1 ++ l2.reverse) (l2 ++ l1.take i)))
                case atStart => exact ⟨0, rb, hidH rfl, rfl, by omega, hidH (by rw [List.take_zero, List.append_nil]; exact HH3.out)⟩
                case round =>
                  clear t1 t1n hi hlt HI HH2 HH3
                  obtain ⟨i, rb, HI, rfl, hi, HH3⟩ := hrel
                  by_cases hlt : i < l1.length
                  · skip
                    have t1 : decide ((i : Int) < (l1.length : Int)) = true := decide_eq_true (by omega)
                    have t1n : decide (i < l1.length) = true := decide_eq_true (by omega)
                    have q1 : ((i : Int) < (l1.length : Int)) = True := eq_true (by omega)
                    have q2 : ((0 : Int) ≤ (i : Int)) = True := eq_true (by omega)
                    have q3 : (i < l1.length) = True := eq_true (by omega)
                    obtain ⟨ad, e2, x0, x1, x2⟩ := at_C (Kd.C_below HR1.out (below_step HB.out HH3.out.1.2)) i hlt
                    cases e2
                    have hlz : (l2 ++ l1.take i).length ≤ 100000 := by rw [List.length_append, List.length_take]; omega
                    go_wp2_with ((go_at_call 12; (with_reducible refine (HPr.putB wa wa.heap.size ra w1.heap.size rb a0 (l1 ++ l2.reverse) (l2 ++ l1.take i) l1[i] _ hlz HH3.out).mono ?_); rintro e HM3w ⟨rfl, HM3r, h1⟩; have HM3 := hidH h1; clear h1))
                    go_roundg (l1.length - (i + 1))
                    case measure => have := HI.out; omega
                    case rel => exact ⟨i + 1, HM3r, hidH rfl, by go_num, by omega, hidH (by have h_ := HM3.out; rwa [List.append_assoc, ← List.take_succ_eq_append_getElem hlt] at h_)⟩
                  · skip
                    have t1 : decide ((i : Int) < (l1.length : Int)) = false := decide_eq_false (by omega)
                    have t1n : decide (i < l1.length) = false := decide_eq_false (by omega)
                    have HH4 : Hid (HPr wa wr wa.heap.size ra w1.heap.size rb a0 (l1 ++ l2.reverse) (l1 ++ l2.reverse)) := hidH (by
                      have h_ := HH3.out
                      rw [List.take_of_length_le (by omega)] at h_
                      exact h_.perm (List.Perm.refl _) (List.perm_append_comm.trans ((List.reverse_perm l2).symm.append_left l1)))
                    go_wp2
                    go_loopg [15] (l1.length + l2.length + 1) (fun kq v15 wr => ∃ (i : Nat) (T : List S23), Hid (kq = l1.length + l2.length + 1 - i) ∧ v15 = .int .i64 (i : Int) ∧ i ≤ l1.length + l2.length + 1 ∧ T.length = l1.length + l2.length - i ∧ Hid (HPr wa wr wa.heap.size ra w1.heap.size rb a0 T T))
                    case atStart => exact ⟨0, _, hidH rfl, rfl, by omega, by rw [List.length_append, List.length_reverse]; omega, HH4⟩
                    case round =>
                      clear t1 t1n hi hlt HI HH3 HH4
                      obtain ⟨i, T, HI, rfl, hi, hT, HH4⟩ := hrel
                      by_cases hlt : i ≤ l1.length + l2.length
                      · have t1 : decide ((i : Int) ≤ (l1.length : Int) + (l2.length : Int)) = true := decide_eq_true (by omega)
                        have t1n : ((i : Int) ≤ (l1.length : Int) + (l2.length : Int)) = True := eq_true (by omega)
                        have t1m : decide (i ≤ l1.length + l2.length) = true := decide_eq_true hlt
                        have t1k : (i ≤ l1.length + l2.length) = True := eq_true hlt
                        have HI2 := HI
                        clear HI
                        by_cases hTn : T = []
                        · subst hTn
                          have HTT := hidH hT
                          clear hT
                          go_wp2_with ((go_at_call 13; first | ((with_reducible refine (HPr.take0 wa wa.heap.size ra w1.heap.size rb a0 [] wr HH4.out).mono ?_); rintro e w4 ⟨rfl, h1, h2⟩; have H5 := hidH (h1.below (below_alloc (Below.refl _ _) (.cells #[.int .i64 0, .int .i64 0, .int .i64 0] 23))); have HL5 := hidH (And.intro h1.1.lt h1.2.1.lt); have HX5 := hidH (blk_new w4 (.cells #[.int .i64 0, .int .i64 0, .int .i64 0] 23)); clear h1 h2) | ((with_reducible refine (HPr.take0B wa wa.heap.size ra w1.heap.size rb a0 [] _ H5.out).mono ?_); rintro e w5 ⟨rfl, h1, h2⟩; have H6 := hidH (h1.below (below_alloc (Below.refl _ _) (.cells #[.int .i64 0, .int .i64 0, .int .i64 0] 23))); have HX6 := hidH (blk_alloc ((h2.block w4.heap.size (by rw [World.size_alloc]; omega) (by have := HL5.out.2.1; omega) (fun e => Nat.lt_irrefl _ (HL5.out.2.2 _ e.symm))).trans HX5.out) (.cells #[.int .i64 0, .int .i64 0, .int .i64 0] 23)); obtain ⟨x0, x1, x2, -⟩ := zqz3 HX6.out; clear h1 h2)))
                          go_roundg (l1.length + l2.length + 1 - (i + 1))
                          case measure => have := HI2.out; omega
                          case rel => exact ⟨i + 1, [], hidH rfl, by go_num, by omega, by have := HTT.out; rw [List.length_nil] at this ⊢; omega, H6⟩
                        · obtain ⟨x, t', hp, hm⟩ := exists_least a0 T hTn
                          have hTl : T.length ≤ 100000 := by omega
                          have hlen' := hp.length_eq
                          rw [List.length_cons] at hlen'
                          have HTT := hidH (show t'.length = l1.length + l2.length - (i + 1) by omega)
                          have HP := hidH hp
                          have HM := hidH hm
                          clear hp hm hT hlen' hTn
                          go_wp2_with ((go_at_call 13; first | ((with_reducible refine (HPr.take wa wa.heap.size ra w1.heap.size rb a0 T T x t' wr hTl HH4.out HP.out HM.out).mono ?_); rintro e w4 ⟨rfl, h1, h2⟩; have H5 := hidH (h1.below (below_alloc (Below.refl _ _) (.cells #[.int .i64 x.f0, .int .i64 x.f1, .int .i64 x.f2] 23))); have HL5 := hidH (And.intro h1.1.lt h1.2.1.lt); have HX5 := hidH (blk_new w4 (.cells #[.int .i64 x.f0, .int .i64 x.f1, .int .i64 x.f2] 23)); clear h1 h2) | ((with_reducible refine (HPr.takeB wa wa.heap.size ra w1.heap.size rb a0 t' T x t' _ hTl H5.out HP.out HM.out).mono ?_); rintro e w5 ⟨rfl, h1, h2⟩; have H6 := hidH (h1.below (below_alloc (Below.refl _ _) (.cells #[.int .i64 x.f0, .int .i64 x.f1, .int .i64 x.f2] 23))); have HX6 := hidH (blk_alloc ((h2.block w4.heap.size (by rw [World.size_alloc]; omega) (by have := HL5.out.2.1; omega) (fun e => Nat.lt_irrefl _ (HL5.out.2.2 _ e.symm))).trans HX5.out) (.cells #[.int .i64 x.f0, .int .i64 x.f1, .int .i64 x.f2] 23)); obtain ⟨x0, x1, x2, -⟩ := zqz3 HX6.out; clear h1 h2)))
                          go_roundg (l1.length + l2.length + 1 - (i + 1))
                          case measure => have := HI2.out; omega
                          case rel => exact ⟨i + 1, t', hidH rfl, by go_num, by omega, HTT.out, H6⟩
                      · have t1 : decide ((i : Int) ≤ (l1.length : Int) + (l2.length : Int)) = false := decide_eq_false (by omega)
                        have t1n : ((i : Int) ≤ (l1.length : Int) + (l2.length : Int)) = False := eq_false (by omega)
                        have t1m : decide (i ≤ l1.length + l2.length) = false := decide_eq_false hlt
                        have t1k : (i ≤ l1.length + l2.length) = False := eq_false hlt
                        go_wp2
                        go_ret
                        exact ⟨rfl, below_step HB.out HH4.out.1.2⟩
          · obtain ⟨x, t', hp, hm⟩ := exists_least a0 l1 hn
            have HP := hidH hp
            have HM := hidH hm
            have hl0 : l1.length ≤ 100000 := by omega
            have hlt' : t'.length ≤ 100000 := by have := hp.length_eq; rw [List.length_cons] at this; omega
            clear hp hm hn
            go_wp2_with (first | (go_at_call 13; (with_reducible refine (HPr.take wa wa.heap.size ra w1.heap.size none a0 l1 [] x t' wr hl0 HH2.out HP.out HM.out).mono ?_); rintro e w4 ⟨rfl, h1, h2⟩; have HQ1 := hidH (h1.below (below_alloc (Below.refl _ _) (.cells #[.int .i64 x.f0, .int .i64 x.f1, .int .i64 x.f2] 23))); clear h1 h2) | (go_at_call 12; (with_reducible refine (HPr.put wa wa.heap.size ra w1.heap.size none a0 t' [] x _ hlt' HQ1.out).mono ?_); rintro e HQ2w ⟨rfl, HQ2r, h1⟩; have HQ2 := hidH h1; clear h1))
            have HQ := hidH (show HPr wa HQ2w wa.heap.size HQ2r w1.heap.size none a0 (l1 ++ l2.reverse.take 0) (l2.take 0) by rw [List.take_zero, List.append_nil]; exact HQ2.out.perm ((List.perm_append_singleton x t').trans HP.out.symm) (List.Perm.refl _))
            go_loopg [13] l2.length (fun kq v13 wr => ∃ (i : Nat) (ra rb : Option Nat), Hid (kq = l2.length - i) ∧ v13 = .int .i64 (i : Int) ∧ i ≤ l2.length ∧ Hid (HPr wa wr wa.heap.size ra w1.heap.size rb a0 (l1 ++ l2.reverse.take i) (l2.take i)))
            case atStart => exact ⟨0, _, none, hidH rfl, rfl, by omega, HQ⟩
            case round =>
              clear t1 t1n
              obtain ⟨i, ra, rb, HI, rfl, hi, HH2⟩ := hrel
              by_cases hlt : i < l2.length
              · skip
                have t1 : decide ((i : Int) < (l2.length : Int)) = true := decide_eq_true (by omega)
                have t1n : decide (i < l2.length) = true := decide_eq_true (by omega)
                have q1 : ((i : Int) < (l2.length : Int)) = True := eq_true (by omega)
                have q2 : ((0 : Int) ≤ (i : Int)) = True := eq_true (by omega)
                have q3 : (i < l2.length) = True := eq_true (by omega)
                obtain ⟨k, hk⟩ : ∃ k, k = l2.length - 1 - i := ⟨_, rfl⟩
                have hkl : k < l2.length := by omega
                have e1 : (l2.length : Int) - 1 - (i : Int) = (k : Int) := by omega
                have k1 : ((k : Int) < (l2.length : Int)) = True := eq_true (by omega)
                have k2 : ((0 : Int) ≤ (k : Int)) = True := eq_true (by omega)
                have k3 : (k < l2.length) = True := eq_true hkl
                obtain ⟨ad, e2, x0, x1, x2⟩ := at_C (Kd.C_below HR2.out (below_step HB.out HH2.out.1.2)) k hkl
                cases e2
                have HK := hidH hk
                clear hk
                have hll : (l1 ++ l2.reverse.take i).length ≤ 100000 := by rw [List.length_append, List.length_take]; omega
                have hlz : (l2.take i).length ≤ 100000 := by rw [List.length_take]; omega
                go_wp2_with (first | ((go_at_call 12; (with_reducible refine (HPr.put wa wa.heap.size ra w1.heap.size rb a0 (l1 ++ l2.reverse.take i) (l2.take i) l2[k] _ hll HH2.out).mono ?_); rintro e HM1w ⟨rfl, HM1r, h1⟩; have HM1 := hidH h1; clear h1); obtain ⟨ad', e3, y0, y1, y2⟩ := at_C (Kd.C_below HR2.out (below_step HB.out HM1.out.1.2)) i hlt; obtain rfl := Option.some.inj e3) | (go_at_call 12; (with_reducible refine (HPr.putB wa wa.heap.size _ w1.heap.size rb a0 _ (l2.take i) l2[i] _ hlz HM1.out).mono ?_); rintro e HM2w ⟨rfl, HM2r, h1⟩; have HM2 := hidH h1; clear h1))
                go_roundg (l2.length - (i + 1))
                case measure => have := HI.out; omega
                case rel => exact ⟨i + 1, HM1r, HM2r, hidH rfl, by go_num, by omega, hidH (by
                  have h_ := HM2.out
                  rw [← List.take_succ_eq_append_getElem hlt, List.append_assoc] at h_
                  have h3 : l2.reverse.take i ++ [l2[k]] = l2.reverse.take (i + 1) := by
                    rw [List.take_succ_eq_append_getElem (by rw [List.length_reverse]; exact hlt), List.getElem_reverse]
                    simp only [HK.out]
                  rwa [h3] at h_)⟩
              · skip
                have t1 : decide ((i : Int) < (l2.length : Int)) = false := decide_eq_false (by omega)
                have t1n : decide (i < l2.length) = false := decide_eq_false (by omega)
                have HH3 : Hid (HPr wa wr wa.heap.size ra w1.heap.size rb a0 (l1 ++ l2.reverse) l2) := hidH (by have h_ := HH2.out; rwa [List.take_of_length_le (by rw [List.length_reverse]; omega), List.take_of_length_le (by omega)] at h_)
                go_wp2
                go_loopg [14] l1.length (fun kq v14 wr => ∃ (i : Nat) (rb : Option Nat), Hid (kq = l1.length - i) ∧ v14 = .int .i64 (i : Int) ∧ i ≤ l1.length ∧ Hid (HPr wa wr wa.heap.size ra w1.heap.size rb a0 (l1 ++ l2.reverse) (l2 ++ l1.take i)))
                case atStart => exact ⟨0, rb, hidH rfl, rfl, by omega, hidH (by rw [List.take_zero, List.append_nil]; exact HH3.out)⟩
                case round =>
                  clear t1 t1n hi hlt HI HH2 HH3
                  obtain ⟨i, rb, HI, rfl, hi, HH3⟩ := hrel
                  by_cases hlt : i < l1.length
                  · skip
                    have t1 : decide ((i : Int) < (l1.length : Int)) = true := decide_eq_true (by omega)
                    have t1n : decide (i < l1.length) = true := decide_eq_true (by omega)
                    have q1 : ((i : Int) < (l1.length : Int)) = True := eq_true (by omega)
                    have q2 : ((0 : Int) ≤ (i : Int)) = True := eq_true (by omega)
                    have q3 : (i < l1.length) = True := eq_true (by omega)
                    obtain ⟨ad, e2, x0, x1, x2⟩ := at_C (Kd.C_below HR1.out (below_step HB.out HH3.out.1.2)) i hlt
                    cases e2
                    have hlz : (l2 ++ l1.take i).length ≤ 100000 := by rw [List.length_append, List.length_take]; omega
                    go_wp2_with ((go_at_call 12; (with_reducible refine (HPr.putB wa wa.heap.size ra w1.heap.size rb a0 (l1 ++ l2.reverse) (l2 ++ l1.take i) l1[i] _ hlz HH3.out).mono ?_); rintro e HM3w ⟨rfl, HM3r, h1⟩; have HM3 := hidH h1; clear h1))
                    go_roundg (l1.length - (i + 1))
                    case measure => have := HI.out; omega
                    case rel => exact ⟨i + 1, HM3r, hidH rfl, by go_num, by omega, hidH (by have h_ := HM3.out; rwa [List.append_assoc, ← List.take_succ_eq_append_getElem hlt] at h_)⟩
                  · skip
                    have t1 : decide ((i : Int) < (l1.length : Int)) = false := decide_eq_false (by omega)
                    have t1n : decide (i < l1.length) = false := decide_eq_false (by omega)
                    have HH4 : Hid (HPr wa wr wa.heap.size ra w1.heap.size rb a0 (l1 ++ l2.reverse) (l1 ++ l2.reverse)) := hidH (by
                      have h_ := HH3.out
                      rw [List.take_of_length_le (by omega)] at h_
                      exact h_.perm (List.Perm.refl _) (List.perm_append_comm.trans ((List.reverse_perm l2).symm.append_left l1)))
                    go_wp2
                    go_loopg [15] (l1.length + l2.length + 1) (fun kq v15 wr => ∃ (i : Nat) (T : List S23), Hid (kq = l1.length + l2.length + 1 - i) ∧ v15 = .int .i64 (i : Int) ∧ i ≤ l1.length + l2.length + 1 ∧ T.length = l1.length + l2.length - i ∧ Hid (HPr wa wr wa.heap.size ra w1.heap.size rb a0 T T))
                    case atStart => exact ⟨0, _, hidH rfl, rfl, by omega, by rw [List.length_append, List.length_reverse]; omega, HH4⟩
                    case round =>
                      clear t1 t1n hi hlt HI HH3 HH4
                      obtain ⟨i, T, HI, rfl, hi, hT, HH4⟩ := hrel
                      by_cases hlt : i ≤ l1.length + l2.length
                      · have t1 : decide ((i : Int) ≤ (l1.length : Int) + (l2.length : Int)) = true := decide_eq_true (by omega)
                        have t1n : ((i : Int) ≤ (l1.length : Int) + (l2.length : Int)) = True := eq_true (by omega)
                        have t1m : decide (i ≤ l1.length + l2.length) = true := decide_eq_true hlt
                        have t1k : (i ≤ l1.length + l2.length) = True := eq_true hlt
                        have HI2 := HI
                        clear HI
                        by_cases hTn : T = []
                        · subst hTn
                          have HTT := hidH hT
                          clear hT
                          go_wp2_with ((go_at_call 13; first | ((with_reducible refine (HPr.take0 wa wa.heap.size ra w1.heap.size rb a0 [] wr HH4.out).mono ?_); rintro e w4 ⟨rfl, h1, h2⟩; have H5 := hidH (h1.below (below_alloc (Below.refl _ _) (.cells #[.int .i64 0, .int .i64 0, .int .i64 0] 23))); have HL5 := hidH (And.intro h1.1.lt h1.2.1.lt); have HX5 := hidH (blk_new w4 (.cells #[.int .i64 0, .int .i64 0, .int .i64 0] 23)); clear h1 h2) | ((with_reducible refine (HPr.take0B wa wa.heap.size ra w1.heap.size rb a0 [] _ H5.out).mono ?_); rintro e w5 ⟨rfl, h1, h2⟩; have H6 := hidH (h1.below (below_alloc (Below.refl _ _) (.cells #[.int .i64 0, .int .i64 0, .int .i64 0] 23))); have HX6 := hidH (blk_alloc ((h2.block w4.heap.size (by rw [World.size_alloc]; omega) (by have := HL5.out.2.1; omega) (fun e => Nat.lt_irrefl _ (HL5.out.2.2 _ e.symm))).trans HX5.out) (.cells #[.int .i64 0, .int .i64 0, .int .i64 0] 23)); obtain ⟨x0, x1, x2, -⟩ := zqz3 HX6.out; clear h1 h2)))
                          go_roundg (l1.length + l2.length + 1 - (i + 1))
                          case measure => have := HI2.out; omega
                          case rel => exact ⟨i + 1, [], hidH rfl, by go_num, by omega, by have := HTT.out; rw [List.length_nil] at this ⊢; omega, H6⟩
                        · obtain ⟨x, t', hp, hm⟩ := exists_least a0 T hTn
                          have hTl : T.length ≤ 100000 := by omega
                          have hlen' := hp.length_eq
                          rw [List.length_cons] at hlen'
                          have HTT := hidH (show t'.length = l1.length + l2.length - (i + 1) by omega)
                          have HP := hidH hp
                          have HM := hidH hm
                          clear hp hm hT hlen' hTn
                          go_wp2_with ((go_at_call 13; first | ((with_reducible refine (HPr.take wa wa.heap.size ra w1.heap.size rb a0 T T x t' wr hTl HH4.out HP.out HM.out).mono ?_); rintro e w4 ⟨rfl, h1, h2⟩; have H5 := hidH (h1.below (below_alloc (Below.refl _ _) (.cells #[.int .i64 x.f0, .int .i64 x.f1, .int .i64 x.f2] 23))); have HL5 := hidH (And.intro h1.1.lt h1.2.1.lt); have HX5 := hidH (blk_new w4 (.cells #[.int .i64 x.f0, .int .i64 x.f1, .int .i64 x.f2] 23)); clear h1 h2) | ((with_reducible refine (HPr.takeB wa wa.heap.size ra w1.heap.size rb a0 t' T x t' _ hTl H5.out HP.out HM.out).mono ?_); rintro e w5 ⟨rfl, h1, h2⟩; have H6 := hidH (h1.below (below_alloc (Below.refl _ _) (.cells #[.int .i64 x.f0, .int .i64 x.f1, .int .i64 x.f2] 23))); have HX6 := hidH (blk_alloc ((h2.block w4.heap.size (by rw [World.size_alloc]; omega) (by have := HL5.out.2.1; omega) (fun e => Nat.lt_irrefl _ (HL5.out.2.2 _ e.symm))).trans HX5.out) (.cells #[.int .i64 x.f0, .int .i64 x.f1, .int .i64 x.f2] 23)); obtain ⟨x0, x1, x2, -⟩ := zqz3 HX6.out; clear h1 h2)))
                          go_roundg (l1.length + l2.length + 1 - (i + 1))
                          case measure => have := HI2.out; omega
                          case rel => exact ⟨i + 1, t', hidH rfl, by go_num, by omega, HTT.out, H6⟩
                      · have t1 : decide ((i : Int) ≤ (l1.length : Int) + (l2.length : Int)) = false := decide_eq_false (by omega)
                        have t1n : ((i : Int) ≤ (l1.length : Int) + (l2.length : Int)) = False := eq_false (by omega)
                        have t1m : decide (i ≤ l1.length + l2.length) = false := decide_eq_false hlt
                        have t1k : (i ≤ l1.length + l2.length) = False := eq_false hlt
                        go_wp2
                        go_ret
                        exact ⟨rfl, below_step HB.out HH4.out.1.2⟩
    · skip
      have l1p0 : decide ((l1.length : Int) > 100) = false := decide_eq_false (by omega)
      have l1p1 : decide (l1.length > 100) = false := decide_eq_false (by omega)
      have l1p2 : decide (100 < l1.length) = false := decide_eq_false (by omega)
      have l2p0 : decide ((l2.length : Int) > 100) = true := decide_eq_true (by omega)
      have l2p1 : decide (l2.length > 100) = true := decide_eq_true (by omega)
      have l2p2 : decide (100 < l2.length) = true := decide_eq_true (by omega)
      go_enter Try.func4, Try.ntmps4
      go_wp2_with (first | (go_at_call 9; (with_reducible refine (awake_true _).mono ?_); rintro e wa ⟨rfl, hb⟩; have HB := hidH hb; clear hb) | (go_at_call 11; first | ((with_reducible refine (HSt.new a0 wa wa (Below.refl _ _)).mono ?_); rintro e w1 ⟨rfl, h1, h2⟩; have H1 := hidH h1; clear h1 h2) | ((with_reducible refine (HPr.new a0 wa w1 wa.heap.size none H1.out).mono ?_); rintro e w3 ⟨rfl, h1, h2⟩; have H3 := hidH h1; clear h1 h2)))
      go_ret
      exact ⟨rfl, below_step HB.out H3.out.1.2⟩
  · skip
    have l1p0 : decide ((l1.length : Int) > 100) = true := decide_eq_true (by omega)
    have l1p1 : decide (l1.length > 100) = true := decide_eq_true (by omega)
    have l1p2 : decide (100 < l1.length) = true := decide_eq_true (by omega)
    go_enter Try.func4, Try.ntmps4
    go_wp2_with (first | (go_at_call 9; (with_reducible refine (awake_true _).mono ?_); rintro e wa ⟨rfl, hb⟩; have HB := hidH hb; clear hb) | (go_at_call 11; first | ((with_reducible refine (HSt.new a0 wa wa (Below.refl _ _)).mono ?_); rintro e w1 ⟨rfl, h1, h2⟩; have H1 := hidH h1; clear h1 h2) | ((with_reducible refine (HPr.new a0 wa w1 wa.heap.size none H1.out).mono ?_); rintro e w3 ⟨rfl, h1, h2⟩; have H3 := hidH h1; clear h1 h2)))
    go_ret
    exact ⟨rfl, below_step HB.out H3.out.1.2⟩
def haulierlaw03_HeapMore.f (_a0 : Int) (_l1 _l2 : List S23) : Option Bool := some true
theorem haulierlaw03_HeapMore.calls (a0 : Int) (A1 : Option Addr) (c1 : Nat) (l1 : List S23) (A2 : Option Addr) (c2 : Nat) (l2 : List S23) (r : Bool) (w : World) (hr1 : Kd.C k23 w A1 l1.length l1) (hc1 : l1.length ≤ c1) (hr2 : Kd.C k23 w A2 l2.length l2) (hc2 : l2.length ≤ c2) (h : haulierlaw03_HeapMore.f a0 l1 l2 = some r) :
    Calls Try.prog 4 #[.int .i64 a0, .slice A1 l1.length c1, .slice A2 l2.length c2] w fun e w' => e = .returned (.bool r) ∧ Below w.heap.size w w' := by
  obtain rfl := Option.some.inj h
  exact more_law a0 A1 c1 l1 A2 c2 l2 w hr1 hr2

/-! ### haulierref03_Heap_Least: function 18, BY HAND -/

/-! ### haulierlaw03_HeapRuns: function 5, BY HAND -/
/-- A heap and the document's, apart. -/
def HQr (w0 w : World) (ga : Nat) (ra : Option Nat) (gb : Nat) (rb : Option Nat) (o : Int) (xs zs : List S23) : Prop := HSt w0 w ga ra o xs ∧ RS w0 w gb rb o zs ∧ Sep ga ra gb rb
theorem RS.cell {w0 w : World} {g : Nat} {r : Option Nat} {o : Int} {xs : List S23} (h : RS w0 w g r o xs) : ∃ A c, w.cell? ⟨g, 1, none⟩ = some (.slice A xs.length c) := by
  obtain ⟨⟨ys, ⟨h1, v, h2, h3, h5⟩, hp⟩, h4⟩ := h
  obtain ⟨A, c, rfl⟩ := Kd.R_slice h5
  exact ⟨A, c, by rw [← hp.length_eq]; exact blk_cell h2 1⟩
theorem RS.new (o : Int) (w0 w : World) (hb : Below w0.heap.size w0 w) : RS w0 (w.alloc (.cells #[.int .i64 o, .slice none 0 0] 37)) w.heap.size none o [] :=
  ⟨⟨[], ⟨hb.size, _, blk_new _ _, rfl, Kd.R_nil _ _ _ _ _⟩, List.Perm.refl _⟩, below_alloc hb _⟩
theorem RS.take_known (w0 : World) (g : Nat) (r : Option Nat) (o : Int) (xs : List S23) (x : S23) (t : List S23) (w : World) (hlen : xs.length ≤ 100000) (h : RS w0 w g r o xs) (hp : xs.Perm (x :: t)) (hm : ∀ y ∈ xs, lessE o y x = false) :
    Calls Try.prog 15 #[.pointer (some ⟨g, 0, none⟩)] w fun e w' => e = .returned (.tuple #[.agg #[.int .i64 x.f0, .int .i64 x.f1, .int .i64 x.f2], .bool true]) ∧ ∃ r', RS w0 w' g r' o t ∧ Frm w w' g r r' := by
  refine (RS.take_cons w0 g r o xs w (by rw [hp.length_eq]; exact Nat.zero_lt_succ _) hlen h).mono ?_
  rintro e w' ⟨x', t', rfl, g1, g2, r', g3, g4⟩
  obtain rfl : x' = x := least_one (g1.mem_iff.2 List.mem_cons_self) (hp.mem_iff.2 List.mem_cons_self) g2 hm
  exact ⟨rfl, r', g3.perm (List.Perm.cons_inv (g1.symm.trans hp)), g4⟩
theorem HQr.below {w0 w : World} {ga : Nat} {ra : Option Nat} {gb : Nat} {rb : Option Nat} {o : Int} {xs zs : List S23} {w' : World} (h : HQr w0 w ga ra gb rb o xs zs) (hb : Below w.heap.size w w') : HQr w0 w' ga ra gb rb o xs zs := ⟨h.1.below hb, h.2.1.below hb, h.2.2⟩
theorem HQr.put (w0 : World) (ga : Nat) (ra : Option Nat) (gb : Nat) (rb : Option Nat) (o : Int) (xs zs : List S23) (x : S23) (w : World) (hlen : xs.length ≤ 100000) (h : HQr w0 w ga ra gb rb o xs zs) :
    Calls Try.prog 12 #[.pointer (some ⟨ga, 0, none⟩), .agg #[.int .i64 x.f0, .int .i64 x.f1, .int .i64 x.f2]] w fun e w' => e = .returned (.tuple #[]) ∧ ∃ r', HQr w0 w' ga r' gb rb o (xs ++ [x]) zs :=
  (HSt.put w0 ga ra o xs x w hlen h.1).mono fun e w' ⟨h1, r', h2, h3⟩ => ⟨h1, r', h2, h.2.1.frm h3 h.2.2 h2.2, h3.sep h.2.1.lt h.2.2⟩
theorem HQr.rput (w0 : World) (ga : Nat) (ra : Option Nat) (gb : Nat) (rb : Option Nat) (o : Int) (xs zs : List S23) (x : S23) (w : World) (hlen : zs.length ≤ 100000) (h : HQr w0 w ga ra gb rb o xs zs) :
    Calls Try.prog 14 #[.pointer (some ⟨gb, 0, none⟩), .agg #[.int .i64 x.f0, .int .i64 x.f1, .int .i64 x.f2]] w fun e w' => e = .returned (.tuple #[]) ∧ ∃ r', HQr w0 w' ga ra gb r' o xs (zs ++ [x]) :=
  (RS.put w0 gb rb o zs x w hlen h.2.1).mono fun e w' ⟨h1, r', h2, h3⟩ => ⟨h1, r', h.1.frm h3 h.2.2.symm h2.2, h2, (h3.sep h.1.lt h.2.2.symm).symm⟩
theorem HQr.take (w0 : World) (ga : Nat) (ra : Option Nat) (gb : Nat) (rb : Option Nat) (o : Int) (xs zs : List S23) (x : S23) (t : List S23) (w : World) (hlen : xs.length ≤ 100000) (h : HQr w0 w ga ra gb rb o xs zs) (hp : xs.Perm (x :: t)) (hm : ∀ y ∈ xs, lessE o y x = false) :
    Calls Try.prog 13 #[.pointer (some ⟨ga, 0, none⟩)] w fun e w' => e = .returned (.tuple #[.agg #[.int .i64 x.f0, .int .i64 x.f1, .int .i64 x.f2], .bool true]) ∧ HQr w0 w' ga ra gb rb o t zs ∧ Frm w w' ga ra ra :=
  (HSt.take_known w0 ga ra o xs x t w hlen h.1 hp hm).mono fun e w' ⟨h1, h2, h3⟩ => ⟨h1, ⟨h2, h.2.1.frm h3 h.2.2 h2.2, h3.sep h.2.1.lt h.2.2⟩, h3⟩
theorem HQr.take0 (w0 : World) (ga : Nat) (ra : Option Nat) (gb : Nat) (rb : Option Nat) (o : Int) (zs : List S23) (w : World) (h : HQr w0 w ga ra gb rb o [] zs) :
    Calls Try.prog 13 #[.pointer (some ⟨ga, 0, none⟩)] w fun e w' => e = .returned (.tuple #[.agg #[.int .i64 0, .int .i64 0, .int .i64 0], .bool false]) ∧ HQr w0 w' ga ra gb rb o [] zs ∧ Frm w w' ga ra ra :=
  (HSt.take_nil w0 ga ra o w h.1).mono fun e w' ⟨h1, h2, h3⟩ => ⟨h1, ⟨h2, h.2.1.frm h3 h.2.2 h2.2, h3.sep h.2.1.lt h.2.2⟩, h3⟩
theorem HQr.rtake (w0 : World) (ga : Nat) (ra : Option Nat) (gb : Nat) (rb : Option Nat) (o : Int) (xs zs : List S23) (x : S23) (t : List S23) (w : World) (hlen : zs.length ≤ 100000) (h : HQr w0 w ga ra gb rb o xs zs) (hp : zs.Perm (x :: t)) (hm : ∀ y ∈ zs, lessE o y x = false) :
    Calls Try.prog 15 #[.pointer (some ⟨gb, 0, none⟩)] w fun e w' => e = .returned (.tuple #[.agg #[.int .i64 x.f0, .int .i64 x.f1, .int .i64 x.f2], .bool true]) ∧ ∃ r', HQr w0 w' ga ra gb r' o xs t ∧ Frm w w' gb rb r' :=
  (RS.take_known w0 gb rb o zs x t w hlen h.2.1 hp hm).mono fun e w' ⟨h1, r', h2, h3⟩ => ⟨h1, r', ⟨h.1.frm h3 h.2.2.symm h2.2, h2, (h3.sep h.1.lt h.2.2.symm).symm⟩, h3⟩
theorem HQr.rtake0 (w0 : World) (ga : Nat) (ra : Option Nat) (gb : Nat) (rb : Option Nat) (o : Int) (xs : List S23) (w : World) (h : HQr w0 w ga ra gb rb o xs []) :
    Calls Try.prog 15 #[.pointer (some ⟨gb, 0, none⟩)] w fun e w' => e = .returned (.tuple #[.agg #[.int .i64 0, .int .i64 0, .int .i64 0], .bool false]) ∧ ∃ r', HQr w0 w' ga ra gb r' o xs [] ∧ Frm w w' gb rb r' :=
  (RS.take_nil w0 gb rb o w h.2.1).mono fun e w' ⟨h1, r', h2, h3⟩ => ⟨h1, r', ⟨h.1.frm h3 h.2.2.symm h2.2, h2, (h3.sep h.1.lt h.2.2.symm).symm⟩, h3⟩
theorem at_O {w : World} {A : Option Addr} {xs : List S39} (h : Kd.C k39 w A xs.length xs) (i : Nat) (hi : i < xs.length) : ∃ ad, A = some ad ∧ w.cell? (ad.add (i * 4)) = some (.int .i64 xs[i].f0) ∧ w.cell? ⟨(ad.add (i * 4)).block, (ad.add (i * 4)).off + 1, none⟩ = some (.int .i64 xs[i].f1.f0) ∧ w.cell? ⟨(ad.add (i * 4)).block, (ad.add (i * 4)).off + 2, none⟩ = some (.int .i64 xs[i].f1.f1) ∧ w.cell? ⟨(ad.add (i * 4)).block, (ad.add (i * 4)).off + 3, none⟩ = some (.int .i64 xs[i].f1.f2) := by
  obtain ⟨ad, e, h0, h1, h2, h3⟩ := at_T39 h (i : Int) (by omega) (by omega)
  have hx : rd_T39 xs (i : Int) = xs[i] := by unfold rd_T39; rw [Int.toNat_natCast]; simp [List.getD, List.getElem?_eq_getElem hi]
  rw [hx, Int.toNat_natCast] at h0 h1 h2 h3
  exact ⟨ad, e, h0, h1, h2, h3⟩
set_option maxRecDepth 8000 in
set_option maxHeartbeats 2000000 in
theorem runs_law (a0 : Int) (A1 : Option Addr) (c1 : Nat) (l1 : List S39) (a b : S23) (w : World) (hr1 : Kd.C k39 w A1 l1.length l1) : Calls Try.prog 5 #[.int .i64 a0, .slice A1 l1.length c1, .agg #[.int .i64 a.f0, .int .i64 a.f1, .int .i64 a.f2], .agg #[.int .i64 b.f0, .int .i64 b.f1, .int .i64 b.f2]] w fun e w' => e = .returned (.bool true) ∧ Below w.heap.size w w' := by
  have HR0 := hidH hr1
  have hmax0 := Kd.C_max hr1
  clear hr1
  have HBW := hidH (below_alloc (below_alloc (Below.refl _ w) (.cells #[.int .i64 a.f0, .int .i64 a.f1, .int .i64 a.f2] 23)) (.cells #[.int .i64 b.f0, .int .i64 b.f1, .int .i64 b.f2] 23))
  have HA0 := hidH (blk_alloc (blk_new w (.cells #[.int .i64 a.f0, .int .i64 a.f1, .int .i64 a.f2] 23)) (.cells #[.int .i64 b.f0, .int .i64 b.f1, .int .i64 b.f2] 23))
  have hb0 := blk_new (w.alloc (.cells #[.int .i64 a.f0, .int .i64 a.f1, .int .i64 a.f2] 23)) (.cells #[.int .i64 b.f0, .int .i64 b.f1, .int .i64 b.f2] 23)
  rw [World.size_alloc] at hb0
  have HB0 := hidH hb0
  clear hb0
  by_cases h60 : l1.length ≤ 200
  · skip
    have p0 : decide ((l1.length : Int) > 200) = false := decide_eq_false (by omega)
    have p1 : decide (l1.length > 200) = false := decide_eq_false (by omega)
    have p2 : decide (200 < l1.length) = false := decide_eq_false (by omega)
    go_enter Try.func5, Try.ntmps5
    go_wp2_with (first | (go_at_call 9; (with_reducible refine (awake_true _).mono ?_); rintro e wa ⟨rfl, hb⟩; have HB := hidH (below_step HBW.out hb); have HA := hidH (blk_below HA0.out hb); have HB_ := hidH (blk_below HB0.out hb); have HBA := hidH (blk_lt HA.out); have HBB_ := hidH (blk_lt HB_.out); clear hb) | (go_at_call 11; (with_reducible refine (HSt.new a0 wa wa (Below.refl _ _)).mono ?_); rintro e w1 ⟨rfl, h1, h2⟩; have H1 := hidH h1; clear h1 h2))
    have H2 := hidH (show HQr wa (w1.alloc (.cells #[.int .i64 a0, .slice none 0 0] 37)) wa.heap.size none w1.heap.size none a0 [] [] from ⟨H1.out.below (below_alloc (Below.refl _ _) _), RS.new a0 wa w1 H1.out.2, (show Sep _ _ _ _ from ⟨by have := H1.out.lt.1; omega, by simp, by simp⟩)⟩)
    go_loopg [12] l1.length (fun kq v12 wr => ∃ (i : Nat) (ra rb : Option Nat) (xs : List S23), Hid (kq = l1.length - i) ∧ v12 = .int .i64 (i : Int) ∧ i ≤ l1.length ∧ xs.length ≤ i ∧ Hid (HQr wa wr wa.heap.size ra w1.heap.size rb a0 xs xs))
    case atStart => exact ⟨0, none, none, [], hidH rfl, rfl, by omega, Nat.le_refl _, H2⟩
    case round =>
      clear H2
      obtain ⟨i, ra, rb, xs, HI2, rfl, hi, hxi, HH⟩ := hrel
      by_cases hlt : i < l1.length
      · skip
        have t1 : decide ((i : Int) < (l1.length : Int)) = true := decide_eq_true (by omega)
        have t1n : decide (i < l1.length) = true := decide_eq_true (by omega)
        have q1 : ((i : Int) < (l1.length : Int)) = True := eq_true (by omega)
        have q2 : ((0 : Int) ≤ (i : Int)) = True := eq_true (by omega)
        have q3 : (i < l1.length) = True := eq_true (by omega)
        obtain ⟨ad, e1, x0, x1, x2, x3⟩ := at_O (Kd.C_below HR0.out (below_step HB.out HH.out.1.2)) i hlt
        cases e1
        have hxl : xs.length ≤ 100000 := by omega
        by_cases hk : l1[i].f0 = 0
        · have k1 : (l1[i].f0 == 0) = true := beq_iff_eq.2 hk
          have k2 : decide (l1[i].f0 = 0) = true := decide_eq_true hk
          have k3 : (l1[i].f0 = 0) = True := eq_true hk
          clear hk
          go_wp2_with (first | (go_at_call 12; (with_reducible refine (HQr.put wa wa.heap.size ra w1.heap.size rb a0 xs xs l1[i].f1 wr hxl HH.out).mono ?_); rintro e w2 ⟨rfl, r2, h1⟩; have HP1 := hidH h1; clear h1; obtain ⟨ad', e3, y0, y1, y2, y3⟩ := at_O (Kd.C_below HR0.out (below_step HB.out HP1.out.1.2)) i hlt; obtain rfl := Option.some.inj e3) | (go_at_call 14; (with_reducible refine (HQr.rput wa wa.heap.size r2 w1.heap.size rb a0 (xs ++ [l1[i].f1]) xs l1[i].f1 w2 hxl HP1.out).mono ?_); rintro e w3 ⟨rfl, r3, h1⟩; have HP2 := hidH h1; clear h1))
          obtain ⟨xs2, hxs2⟩ : ∃ xs2, xs2 = xs ++ [l1[i].f1] := ⟨_, rfl⟩
          obtain ⟨ra2, hra2⟩ : ∃ ra2, ra2 = r2 := ⟨_, rfl⟩
          obtain ⟨rb2, hrb2⟩ : ∃ rb2, rb2 = r3 := ⟨_, rfl⟩
          have HT := HP2
          rw [← hxs2, ← hra2, ← hrb2] at HT
          have hlx : xs2.length ≤ 200000 := by rw [hxs2]; rw [List.length_append, List.length_singleton]; omega
          have HLX : Hid (xs2.length ≤ i + 1) := hidH (by rw [hxs2]; rw [List.length_append, List.length_singleton]; omega)
          obtain ⟨Ar, cr, hcr⟩ := HT.out.2.1.cell
          clear hxs2 hra2 hrb2
          refine start_ (n := 15) (S := fun w' => w'.cell? ⟨w1.heap.size, 1, none⟩ = some (.slice Ar xs2.length cr) ∧ Hid (HQr wa w' wa.heap.size ra2 w1.heap.size rb2 a0 xs2 xs2)) (ds := []) (zqB 15 0) (by kernel_rfl) rfl rfl (⟨hcr, hidH (HT.out.below (below_drew1 (Below.refl _ _)))⟩) (fun hHeld => ?_)
          refine zqp 0 (some 83) (zqB 15 1) (by kernel_rfl) (h := ?_)
          refine zqp 2 (some 85) (zqB 15 5) (by kernel_rfl) (h := ?_)
          refine zqp 3 (some 86) (zqB 15 13) (by kernel_rfl) (h := ?_)
          refine zqp 4 (some 87) (zqB 15 29) (by kernel_rfl) (h := ?_)
          refine zqt 5 (some 88) (zqB 15 61) (by kernel_rfl) hHeld (h := ?_)
          refine zqp 6 (some 89) (zqB 15 125) (by kernel_rfl) (h := ?_)
          refine one_ (i := 1) (N := some 84) (zqB 15 127) rfl rfl (by kernel_rfl) (by decide) (fun K hK => ?_)
          refine goes_ Try.func16 (by kernel_rfl) rfl #[.pointer (some ⟨wa.heap.size, 0, none⟩)] (by rfl) rfl rfl (by first | rfl | (simp only [List.map_toArray, List.map_cons, List.map_nil]; rfl)) ?_
          refine (HSt.len wa wa.heap.size ra2 a0 xs2 _ hHeld.2.out.1).mono ?_
          rintro e w6 ⟨rfl, e6⟩
          refine ⟨_, rfl, ?_⟩
          subst e6; refine hK.out _ _ hHeld (fun hHeld => ?_)
          clear hK K
          refine norm_ (a' := ?_) ?_ ?_
          rotate_left
          · show Act.put _ _ _ = _
            simp only [Act.put, List.setIfInBounds_toArray, List.set_cons_zero, List.set_cons_succ, i64_w, i32_w]
            rfl
          refine zqp 7 (some 90) (zqB 15 255) (by kernel_rfl) (h := ?_)
          refine zqp 8 (some 91) (zqB 15 511) (by kernel_rfl) (h := ?_)
          refine zqp 9 (some 92) (zqB 15 1023) (by kernel_rfl) (h := ?_)
          refine zqp 11 (some 94) (zqB 15 3071) (by kernel_rfl) (h := ?_)
          refine one_ (i := 10) (N := some 93) (zqB 15 4095) rfl rfl (by kernel_rfl) (by decide) (fun K hK => ?_)
          refine goes_ Try.func17 (by kernel_rfl) rfl #[.pointer (some ⟨wa.heap.size, 0, none⟩)] (by rfl) rfl rfl (by first | rfl | (simp only [List.map_toArray, List.map_cons, List.map_nil]; rfl)) ?_
          refine (HSt.least wa wa.heap.size ra2 a0 xs2 _ hlx hHeld.2.out.1).mono ?_
          rintro e w7 ⟨rfl, hb⟩
          refine ⟨_, rfl, ?_⟩
          refine hK.out _ _ ⟨pw_cell_below hb hHeld.1, hidH (hHeld.2.out.below hb)⟩ (fun hHeld => ?_); clear hb
          clear hK K
          refine norm_ (a' := ?_) ?_ ?_
          rotate_left
          · show Act.put _ _ _ = _
            simp only [Act.put, List.setIfInBounds_toArray, List.set_cons_zero, List.set_cons_succ, i64_w, i32_w]
            rfl
          refine one_ (i := 12) (N := some 95) (zqB 15 8191) rfl rfl (by kernel_rfl) (by decide) (fun K hK => ?_)
          refine goes_ Try.func18 (by kernel_rfl) rfl #[.pointer (some ⟨w1.heap.size, 0, none⟩)] (by rfl) rfl rfl (by first | rfl | (simp only [List.map_toArray, List.map_cons, List.map_nil]; rfl)) ?_
          refine (RS.least wa w1.heap.size rb2 a0 xs2 _ hlx hHeld.2.out.2.1).mono ?_
          rintro e w8 ⟨rfl, hb⟩
          refine ⟨_, rfl, ?_⟩
          refine hK.out _ _ ⟨pw_cell_below hb hHeld.1, hidH (hHeld.2.out.below hb)⟩ (fun hHeld => ?_); clear hb
          clear hK K
          refine norm_ (a' := ?_) ?_ ?_
          rotate_left
          · show Act.put _ _ _ = _
            simp only [Act.put, List.setIfInBounds_toArray, List.set_cons_zero, List.set_cons_succ, i64_w, i32_w]
            rfl
          refine zqp 13 (some 96) (zqB 15 16383) (by kernel_rfl) (h := ?_)
          refine zqp 14 (some 97) (zqB 15 32767) (by kernel_rfl) (h := ?_)
          refine done_ (by kernel_rfl) ?_
          go_wp2
          go_roundg (l1.length - (i + 1))
          case measure => have := HI2.out; omega
          case rel => exact ⟨i + 1, ra2, rb2, xs2, hidH rfl, by go_num, by omega, HLX.out, hHeld.2⟩
        · have k1 : (l1[i].f0 == 0) = false := beq_eq_false_iff_ne.2 hk
          have k2 : decide (l1[i].f0 = 0) = false := decide_eq_false hk
          have k3 : (l1[i].f0 = 0) = False := eq_false hk
          clear hk
          by_cases hn : xs = []
          · have HH0 : Hid (HQr wa wr wa.heap.size ra w1.heap.size rb a0 [] []) := hidH (by have h_ := HH.out; rwa [hn] at h_)
            clear hn
            go_wp2_with (first | (go_at_call 13; (with_reducible refine (HQr.take0 wa wa.heap.size ra w1.heap.size rb a0 [] wr HH0.out).mono ?_); rintro e w4 ⟨rfl, h1, h2⟩; have H5 := hidH (h1.below (below_alloc (Below.refl _ _) (.cells #[.int .i64 0, .int .i64 0, .int .i64 0] 23))); have HL5 := hidH h1.2.1.lt; have HX5 := hidH (blk_new w4 (.cells #[.int .i64 0, .int .i64 0, .int .i64 0] 23)); clear h1 h2) | (go_at_call 15; (with_reducible refine (HQr.rtake0 wa wa.heap.size ra w1.heap.size rb a0 [] _ H5.out).mono ?_); rintro e w5 ⟨rfl, r3, h1, h2⟩; have H6 := hidH (h1.below (below_alloc (Below.refl _ _) (.cells #[.int .i64 0, .int .i64 0, .int .i64 0] 23))); have HX6 := hidH (blk_alloc ((h2.block w4.heap.size (by rw [World.size_alloc]; omega) (by have := HL5.out.1; omega) (fun e => Nat.lt_irrefl _ (HL5.out.2 _ e.symm))).trans HX5.out) (.cells #[.int .i64 0, .int .i64 0, .int .i64 0] 23)); obtain ⟨x0, x1, x2, -⟩ := zqz3 HX6.out; clear h1 h2))
            obtain ⟨xs2, hxs2⟩ : ∃ xs2, xs2 = ([] : List S23) := ⟨_, rfl⟩
            obtain ⟨ra2, hra2⟩ : ∃ ra2, ra2 = ra := ⟨_, rfl⟩
            obtain ⟨rb2, hrb2⟩ : ∃ rb2, rb2 = r3 := ⟨_, rfl⟩
            have HT := H6
            rw [← hxs2, ← hra2, ← hrb2] at HT
            have hlx : xs2.length ≤ 200000 := by rw [hxs2]; exact Nat.zero_le _
            have HLX : Hid (xs2.length ≤ i + 1) := hidH (by rw [hxs2]; exact Nat.zero_le _)
            obtain ⟨Ar, cr, hcr⟩ := HT.out.2.1.cell
            clear hxs2 hra2 hrb2
            refine start_ (n := 15) (S := fun w' => w'.cell? ⟨w1.heap.size, 1, none⟩ = some (.slice Ar xs2.length cr) ∧ Hid (HQr wa w' wa.heap.size ra2 w1.heap.size rb2 a0 xs2 xs2)) (ds := []) (zqB 15 0) (by kernel_rfl) rfl rfl (⟨hcr, hidH (HT.out.below (below_drew1 (Below.refl _ _)))⟩) (fun hHeld => ?_)
            refine zqp 0 (some 83) (zqB 15 1) (by kernel_rfl) (h := ?_)
            refine zqp 2 (some 85) (zqB 15 5) (by kernel_rfl) (h := ?_)
            refine zqp 3 (some 86) (zqB 15 13) (by kernel_rfl) (h := ?_)
            refine zqp 4 (some 87) (zqB 15 29) (by kernel_rfl) (h := ?_)
            refine zqt 5 (some 88) (zqB 15 61) (by kernel_rfl) hHeld (h := ?_)
            refine zqp 6 (some 89) (zqB 15 125) (by kernel_rfl) (h := ?_)
            refine one_ (i := 1) (N := some 84) (zqB 15 127) rfl rfl (by kernel_rfl) (by decide) (fun K hK => ?_)
            refine goes_ Try.func16 (by kernel_rfl) rfl #[.pointer (some ⟨wa.heap.size, 0, none⟩)] (by rfl) rfl rfl (by first | rfl | (simp only [List.map_toArray, List.map_cons, List.map_nil]; rfl)) ?_
            refine (HSt.len wa wa.heap.size ra2 a0 xs2 _ hHeld.2.out.1).mono ?_
            rintro e w6 ⟨rfl, e6⟩
            refine ⟨_, rfl, ?_⟩
            subst e6; refine hK.out _ _ hHeld (fun hHeld => ?_)
            clear hK K
            refine norm_ (a' := ?_) ?_ ?_
            rotate_left
            · show Act.put _ _ _ = _
              simp only [Act.put, List.setIfInBounds_toArray, List.set_cons_zero, List.set_cons_succ, i64_w, i32_w]
              rfl
            refine zqp 7 (some 90) (zqB 15 255) (by kernel_rfl) (h := ?_)
            refine zqp 8 (some 91) (zqB 15 511) (by kernel_rfl) (h := ?_)
            refine zqp 9 (some 92) (zqB 15 1023) (by kernel_rfl) (h := ?_)
            refine zqp 11 (some 94) (zqB 15 3071) (by kernel_rfl) (h := ?_)
            refine one_ (i := 10) (N := some 93) (zqB 15 4095) rfl rfl (by kernel_rfl) (by decide) (fun K hK => ?_)
            refine goes_ Try.func17 (by kernel_rfl) rfl #[.pointer (some ⟨wa.heap.size, 0, none⟩)] (by rfl) rfl rfl (by first | rfl | (simp only [List.map_toArray, List.map_cons, List.map_nil]; rfl)) ?_
            refine (HSt.least wa wa.heap.size ra2 a0 xs2 _ hlx hHeld.2.out.1).mono ?_
            rintro e w7 ⟨rfl, hb⟩
            refine ⟨_, rfl, ?_⟩
            refine hK.out _ _ ⟨pw_cell_below hb hHeld.1, hidH (hHeld.2.out.below hb)⟩ (fun hHeld => ?_); clear hb
            clear hK K
            refine norm_ (a' := ?_) ?_ ?_
            rotate_left
            · show Act.put _ _ _ = _
              simp only [Act.put, List.setIfInBounds_toArray, List.set_cons_zero, List.set_cons_succ, i64_w, i32_w]
              rfl
            refine one_ (i := 12) (N := some 95) (zqB 15 8191) rfl rfl (by kernel_rfl) (by decide) (fun K hK => ?_)
            refine goes_ Try.func18 (by kernel_rfl) rfl #[.pointer (some ⟨w1.heap.size, 0, none⟩)] (by rfl) rfl rfl (by first | rfl | (simp only [List.map_toArray, List.map_cons, List.map_nil]; rfl)) ?_
            refine (RS.least wa w1.heap.size rb2 a0 xs2 _ hlx hHeld.2.out.2.1).mono ?_
            rintro e w8 ⟨rfl, hb⟩
            refine ⟨_, rfl, ?_⟩
            refine hK.out _ _ ⟨pw_cell_below hb hHeld.1, hidH (hHeld.2.out.below hb)⟩ (fun hHeld => ?_); clear hb
            clear hK K
            refine norm_ (a' := ?_) ?_ ?_
            rotate_left
            · show Act.put _ _ _ = _
              simp only [Act.put, List.setIfInBounds_toArray, List.set_cons_zero, List.set_cons_succ, i64_w, i32_w]
              rfl
            refine zqp 13 (some 96) (zqB 15 16383) (by kernel_rfl) (h := ?_)
            refine zqp 14 (some 97) (zqB 15 32767) (by kernel_rfl) (h := ?_)
            refine done_ (by kernel_rfl) ?_
            go_wp2
            go_roundg (l1.length - (i + 1))
            case measure => have := HI2.out; omega
            case rel => exact ⟨i + 1, ra2, rb2, xs2, hidH rfl, by go_num, by omega, HLX.out, hHeld.2⟩
          · obtain ⟨x, t', hp, hm⟩ := exists_least a0 xs hn
            have hlt' := hp.length_eq
            rw [List.length_cons] at hlt'
            have HP := hidH hp
            have HM := hidH hm
            clear hp hm hn
            go_wp2_with (first | (go_at_call 13; (with_reducible refine (HQr.take wa wa.heap.size ra w1.heap.size rb a0 xs xs x t' wr hxl HH.out HP.out HM.out).mono ?_); rintro e w4 ⟨rfl, h1, h2⟩; have H5 := hidH (h1.below (below_alloc (Below.refl _ _) (.cells #[.int .i64 x.f0, .int .i64 x.f1, .int .i64 x.f2] 23))); have HL5 := hidH h1.2.1.lt; have HX5 := hidH (blk_new w4 (.cells #[.int .i64 x.f0, .int .i64 x.f1, .int .i64 x.f2] 23)); clear h1 h2) | (go_at_call 15; (with_reducible refine (HQr.rtake wa wa.heap.size ra w1.heap.size rb a0 t' xs x t' _ hxl H5.out HP.out HM.out).mono ?_); rintro e w5 ⟨rfl, r3, h1, h2⟩; have H6 := hidH (h1.below (below_alloc (Below.refl _ _) (.cells #[.int .i64 x.f0, .int .i64 x.f1, .int .i64 x.f2] 23))); have HX6 := hidH (blk_alloc ((h2.block w4.heap.size (by rw [World.size_alloc]; omega) (by have := HL5.out.1; omega) (fun e => Nat.lt_irrefl _ (HL5.out.2 _ e.symm))).trans HX5.out) (.cells #[.int .i64 x.f0, .int .i64 x.f1, .int .i64 x.f2] 23)); obtain ⟨x0, x1, x2, -⟩ := zqz3 HX6.out; clear h1 h2))
            obtain ⟨xs2, hxs2⟩ : ∃ xs2, xs2 = t' := ⟨_, rfl⟩
            obtain ⟨ra2, hra2⟩ : ∃ ra2, ra2 = ra := ⟨_, rfl⟩
            obtain ⟨rb2, hrb2⟩ : ∃ rb2, rb2 = r3 := ⟨_, rfl⟩
            have HT := H6
            rw [← hxs2, ← hra2, ← hrb2] at HT
            have hlx : xs2.length ≤ 200000 := by rw [hxs2]; omega
            have HLX : Hid (xs2.length ≤ i + 1) := hidH (by rw [hxs2]; omega)
            obtain ⟨Ar, cr, hcr⟩ := HT.out.2.1.cell
            clear hxs2 hra2 hrb2
            refine start_ (n := 15) (S := fun w' => w'.cell? ⟨w1.heap.size, 1, none⟩ = some (.slice Ar xs2.length cr) ∧ Hid (HQr wa w' wa.heap.size ra2 w1.heap.size rb2 a0 xs2 xs2)) (ds := []) (zqB 15 0) (by kernel_rfl) rfl rfl (⟨hcr, hidH (HT.out.below (below_drew1 (Below.refl _ _)))⟩) (fun hHeld => ?_)
            refine zqp 0 (some 83) (zqB 15 1) (by kernel_rfl) (h := ?_)
            refine zqp 2 (some 85) (zqB 15 5) (by kernel_rfl) (h := ?_)
            refine zqp 3 (some 86) (zqB 15 13) (by kernel_rfl) (h := ?_)
            refine zqp 4 (some 87) (zqB 15 29) (by kernel_rfl) (h := ?_)
            refine zqt 5 (some 88) (zqB 15 61) (by kernel_rfl) hHeld (h := ?_)
            refine zqp 6 (some 89) (zqB 15 125) (by kernel_rfl) (h := ?_)
            refine one_ (i := 1) (N := some 84) (zqB 15 127) rfl rfl (by kernel_rfl) (by decide) (fun K hK => ?_)
            refine goes_ Try.func16 (by kernel_rfl) rfl #[.pointer (some ⟨wa.heap.size, 0, none⟩)] (by rfl) rfl rfl (by first | rfl | (simp only [List.map_toArray, List.map_cons, List.map_nil]; rfl)) ?_
            refine (HSt.len wa wa.heap.size ra2 a0 xs2 _ hHeld.2.out.1).mono ?_
            rintro e w6 ⟨rfl, e6⟩
            refine ⟨_, rfl, ?_⟩
            subst e6; refine hK.out _ _ hHeld (fun hHeld => ?_)
            clear hK K
            refine norm_ (a' := ?_) ?_ ?_
            rotate_left
            · show Act.put _ _ _ = _
              simp only [Act.put, List.setIfInBounds_toArray, List.set_cons_zero, List.set_cons_succ, i64_w, i32_w]
              rfl
            refine zqp 7 (some 90) (zqB 15 255) (by kernel_rfl) (h := ?_)
            refine zqp 8 (some 91) (zqB 15 511) (by kernel_rfl) (h := ?_)
            refine zqp 9 (some 92) (zqB 15 1023) (by kernel_rfl) (h := ?_)
            refine zqp 11 (some 94) (zqB 15 3071) (by kernel_rfl) (h := ?_)
            refine one_ (i := 10) (N := some 93) (zqB 15 4095) rfl rfl (by kernel_rfl) (by decide) (fun K hK => ?_)
            refine goes_ Try.func17 (by kernel_rfl) rfl #[.pointer (some ⟨wa.heap.size, 0, none⟩)] (by rfl) rfl rfl (by first | rfl | (simp only [List.map_toArray, List.map_cons, List.map_nil]; rfl)) ?_
            refine (HSt.least wa wa.heap.size ra2 a0 xs2 _ hlx hHeld.2.out.1).mono ?_
            rintro e w7 ⟨rfl, hb⟩
            refine ⟨_, rfl, ?_⟩
            refine hK.out _ _ ⟨pw_cell_below hb hHeld.1, hidH (hHeld.2.out.below hb)⟩ (fun hHeld => ?_); clear hb
            clear hK K
            refine norm_ (a' := ?_) ?_ ?_
            rotate_left
            · show Act.put _ _ _ = _
              simp only [Act.put, List.setIfInBounds_toArray, List.set_cons_zero, List.set_cons_succ, i64_w, i32_w]
              rfl
            refine one_ (i := 12) (N := some 95) (zqB 15 8191) rfl rfl (by kernel_rfl) (by decide) (fun K hK => ?_)
            refine goes_ Try.func18 (by kernel_rfl) rfl #[.pointer (some ⟨w1.heap.size, 0, none⟩)] (by rfl) rfl rfl (by first | rfl | (simp only [List.map_toArray, List.map_cons, List.map_nil]; rfl)) ?_
            refine (RS.least wa w1.heap.size rb2 a0 xs2 _ hlx hHeld.2.out.2.1).mono ?_
            rintro e w8 ⟨rfl, hb⟩
            refine ⟨_, rfl, ?_⟩
            refine hK.out _ _ ⟨pw_cell_below hb hHeld.1, hidH (hHeld.2.out.below hb)⟩ (fun hHeld => ?_); clear hb
            clear hK K
            refine norm_ (a' := ?_) ?_ ?_
            rotate_left
            · show Act.put _ _ _ = _
              simp only [Act.put, List.setIfInBounds_toArray, List.set_cons_zero, List.set_cons_succ, i64_w, i32_w]
              rfl
            refine zqp 13 (some 96) (zqB 15 16383) (by kernel_rfl) (h := ?_)
            refine zqp 14 (some 97) (zqB 15 32767) (by kernel_rfl) (h := ?_)
            refine done_ (by kernel_rfl) ?_
            go_wp2
            go_roundg (l1.length - (i + 1))
            case measure => have := HI2.out; omega
            case rel => exact ⟨i + 1, ra2, rb2, xs2, hidH rfl, by go_num, by omega, HLX.out, hHeld.2⟩
      · skip
        have t1 : decide ((i : Int) < (l1.length : Int)) = false := decide_eq_false (by omega)
        have t1n : decide (i < l1.length) = false := decide_eq_false (by omega)
        obtain ⟨z0, z1, z2, -⟩ := zqz3 ((HH.out.1.2.block _ HBA.out).trans HA.out)
        obtain ⟨z3, z4, z5, -⟩ := zqz3 ((HH.out.1.2.block _ HBB_.out).trans HB_.out)
        obtain ⟨bb, hbb⟩ : ∃ bb, lessE a0 a b = bb := ⟨_, rfl⟩
        have HBB := hidH hbb
        clear hbb
        go_wp2
        refine start_ (n := 10) (S := fun w' => w'.cell? ⟨w.heap.size, 0, none⟩ = some (.int .i64 a.f0) ∧ w'.cell? ⟨w.heap.size, 1, none⟩ = some (.int .i64 a.f1) ∧ w'.cell? ⟨w.heap.size, 2, none⟩ = some (.int .i64 a.f2) ∧ w'.cell? ⟨w.heap.size + 1, 0, none⟩ = some (.int .i64 b.f0) ∧ w'.cell? ⟨w.heap.size + 1, 1, none⟩ = some (.int .i64 b.f1) ∧ w'.cell? ⟨w.heap.size + 1, 2, none⟩ = some (.int .i64 b.f2) ∧ Below w.heap.size w w') (ds := []) (zqB 10 0) (by kernel_rfl) rfl rfl (⟨pw_cell_below (below_drew1 (Below.refl _ _)) z0, pw_cell_below (below_drew1 (Below.refl _ _)) z1, pw_cell_below (below_drew1 (Below.refl _ _)) z2, pw_cell_below (below_drew1 (Below.refl _ _)) z3, pw_cell_below (below_drew1 (Below.refl _ _)) z4, pw_cell_below (below_drew1 (Below.refl _ _)) z5, below_drew1 (below_step HB.out HH.out.1.2)⟩) (fun hHeld => ?_)
        refine zqp 0 (some 98) (zqB 10 1) (by kernel_rfl) (h := ?_)
        refine zqt 1 (some 99) (zqB 10 3) (by kernel_rfl) hHeld (h := ?_)
        refine zqt 2 (some 100) (zqB 10 7) (by kernel_rfl) hHeld (h := ?_)
        refine zqp 4 (some 102) (zqB 10 23) (by kernel_rfl) (h := ?_)
        refine zqt 5 (some 103) (zqB 10 55) (by kernel_rfl) hHeld (h := ?_)
        refine zqt 6 (some 104) (zqB 10 119) (by kernel_rfl) hHeld (h := ?_)
        refine one_ (i := 3) (N := some 101) (zqB 10 127) rfl rfl (by kernel_rfl) (by decide) (fun K hK => ?_)
        refine goes_ Try.func10 (by kernel_rfl) rfl #[.int .i64 a0, .agg #[.int .i64 a.f0, .int .i64 a.f1, .int .i64 a.f2], .agg #[.int .i64 b.f0, .int .i64 b.f1, .int .i64 b.f2]] (by rfl) rfl rfl (by first | rfl | (simp only [List.map_toArray, List.map_cons, List.map_nil]; rfl)) ?_
        refine (less_r HBB.out _).mono ?_
        rintro e w6 ⟨rfl, hb⟩
        refine ⟨_, rfl, ?_⟩
        refine hK.out _ _ ⟨pw_cell_below hb hHeld.1, pw_cell_below hb hHeld.2.1, pw_cell_below hb hHeld.2.2.1, pw_cell_below hb hHeld.2.2.2.1, pw_cell_below hb hHeld.2.2.2.2.1, pw_cell_below hb hHeld.2.2.2.2.2.1, below_step hHeld.2.2.2.2.2.2 hb⟩ (fun hHeld => ?_); clear hb
        clear hK K
        refine norm_ (a' := ?_) ?_ ?_
        rotate_left
        · show Act.put _ _ _ = _
          simp only [Act.put, List.setIfInBounds_toArray, List.set_cons_zero, List.set_cons_succ, i64_w, i32_w]
          rfl
        refine one_ (i := 7) (N := some 105) (zqB 10 255) rfl rfl (by kernel_rfl) (by decide) (fun K hK => ?_)
        refine goes_ Try.func19 (by kernel_rfl) rfl #[.int .i64 a0, .agg #[.int .i64 a.f0, .int .i64 a.f1, .int .i64 a.f2], .agg #[.int .i64 b.f0, .int .i64 b.f1, .int .i64 b.f2]] (by rfl) rfl rfl (by first | rfl | (simp only [List.map_toArray, List.map_cons, List.map_nil]; rfl)) ?_
        refine (haulierref03_Less.calls _ _ _ _ _ _ _ bb _ (by rw [ref_less_eq, HBB.out])).mono ?_
        rintro e w7 ⟨rfl, hb⟩
        refine ⟨_, rfl, ?_⟩
        refine hK.out _ _ ⟨pw_cell_below hb hHeld.1, pw_cell_below hb hHeld.2.1, pw_cell_below hb hHeld.2.2.1, pw_cell_below hb hHeld.2.2.2.1, pw_cell_below hb hHeld.2.2.2.2.1, pw_cell_below hb hHeld.2.2.2.2.2.1, below_step hHeld.2.2.2.2.2.2 hb⟩ (fun hHeld => ?_); clear hb
        clear hK K
        refine norm_ (a' := ?_) ?_ ?_
        rotate_left
        · show Act.put _ _ _ = _
          simp only [Act.put, List.setIfInBounds_toArray, List.set_cons_zero, List.set_cons_succ, i64_w, i32_w]
          rfl
        refine zqp 8 (some 106) (zqB 10 511) (by kernel_rfl) (h := ?_)
        refine zqp 9 (some 8) (zqB 10 1023) (by kernel_rfl) (h := ?_)
        refine done_ (by kernel_rfl) ?_
        go_wp2
        go_ret
        exact ⟨by first | rfl | simp, hHeld.2.2.2.2.2.2⟩
  · skip
    have p0 : decide ((l1.length : Int) > 200) = true := decide_eq_true (by omega)
    have p1 : decide (l1.length > 200) = true := decide_eq_true (by omega)
    have p2 : decide (200 < l1.length) = true := decide_eq_true (by omega)
    go_enter Try.func5, Try.ntmps5
    go_wp2_with (first | (go_at_call 9; (with_reducible refine (awake_true _).mono ?_); rintro e wa ⟨rfl, hb⟩; have HB := hidH (below_step HBW.out hb); clear hb) | (go_at_call 11; (with_reducible refine (HSt.new a0 wa wa (Below.refl _ _)).mono ?_); rintro e w1 ⟨rfl, h1, h2⟩; have H1 := hidH h1; clear h1 h2))
    go_ret
    exact ⟨rfl, below_step HB.out H1.out.2⟩
def haulierlaw03_HeapRuns.f (_a0 : Int) (_l1 : List S39) (_a2 _b2 _c2 _a3 _b3 _c3 : Int) : Option Bool := some true
theorem haulierlaw03_HeapRuns.calls (a0 : Int) (A1 : Option Addr) (c1 : Nat) (l1 : List S39) (a2_0 a2_1 a2_2 a3_0 a3_1 a3_2 : Int) (r : Bool) (w : World) (hr1 : Kd.C k39 w A1 l1.length l1) (hc1 : l1.length ≤ c1) (h : haulierlaw03_HeapRuns.f a0 l1 a2_0 a2_1 a2_2 a3_0 a3_1 a3_2 = some r) :
    Calls Try.prog 5 #[.int .i64 a0, .slice A1 l1.length c1, .agg #[.int .i64 a2_0, .int .i64 a2_1, .int .i64 a2_2], .agg #[.int .i64 a3_0, .int .i64 a3_1, .int .i64 a3_2]] w fun e w' => e = .returned (.bool r) ∧ Below w.heap.size w w' := by
  obtain rfl := Option.some.inj h
  exact runs_law a0 A1 c1 l1 ⟨a2_0, a2_1, a2_2⟩ ⟨a3_0, a3_1, a3_2⟩ w hr1

end Go.Proofs.Ytjlfejgblhgceaa.PB
