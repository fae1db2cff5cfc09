-- Printed for this claim by wip/tools/xprint.py over the kit's print; the contracts marked BY HAND are this session's own.
import Derived.Test.YtdmlohoicgfdnaaPAx0
import Derived.Test.YtdmlohoicgfdnaaPAx2
namespace Go.Proofs.Ytdmlohoicgfdnaa.PA
open Go.RowKit Go.Proofs.YtdmlohoicgfdnaaW.PrintWords Go.Proofs.YtdmlohoicgfdnaaW.PrintLast Go.Proofs.YtdmlohoicgfdnaaW.PrintMore
attribute [local go_sem] max2_int min2_int max_two min_two max_three min_three max_four min_four   -- for this text's walks alone
set_option linter.unusedVariables false
set_option linter.unusedSimpArgs false

/-! ### haulierlaw04_awake: function 8 -/
def haulierlaw04_awake.f  : Option (Bool) := (scan_Lines.f (([49, 32, 45, 50, 32, 32, 35, 32, 120, 10, 10, 48, 48, 55] : List Int))).bind fun bt105 => (if bt105.2 = 0 then (if (bt105.1.length : Int) = 2 then (if 0 < (bt105.1.length : Int) then (if ((rd_L2 bt105.1 0).length : Int) = 2 then (if 1 < ((rd_L2 bt105.1 0).length : Int) then (if (rd (rd_L2 bt105.1 0) 1) = (-2) then (if 1 < (bt105.1.length : Int) then (if ((rd_L2 bt105.1 1).length : Int) = 1 then (if 0 < ((rd_L2 bt105.1 1).length : Int) then (some ((rd (rd_L2 bt105.1 1) 0) == 7)) else (none)) else (some false)) else (none)) else (some false)) else (none)) else (some false)) else (none)) else (some false)) else (some false))
theorem haulierlaw04_awake.lit_C (w : World) : Kd.C (Kd.int .u8) (w.alloc (.cells #[.int .u8 49, .int .u8 32, .int .u8 45, .int .u8 50, .int .u8 32, .int .u8 32, .int .u8 35, .int .u8 32, .int .u8 120, .int .u8 10, .int .u8 10, .int .u8 48, .int .u8 48, .int .u8 55] 5 (14, 14 + 1))) (some ⟨w.heap.size, 0, none⟩) 14 ([49, 32, 45, 50, 32, 32, 35, 32, 120, 10, 10, 48, 48, 55] : List Int) := by
  have hb : (w.alloc (.cells #[.int .u8 49, .int .u8 32, .int .u8 45, .int .u8 50, .int .u8 32, .int .u8 32, .int .u8 35, .int .u8 32, .int .u8 120, .int .u8 10, .int .u8 10, .int .u8 48, .int .u8 48, .int .u8 55] 5 (14, 14 + 1))).heap[w.heap.size]? = some (.cells #[.int .u8 49, .int .u8 32, .int .u8 45, .int .u8 50, .int .u8 32, .int .u8 32, .int .u8 35, .int .u8 32, .int .u8 120, .int .u8 10, .int .u8 10, .int .u8 48, .int .u8 48, .int .u8 55] 5 (14, 14 + 1)) := by
    show (w.heap.push _)[w.heap.size]? = _
    simp
  refine Kd.C_of_reads (d := 0) ⟨rfl, by decide, fun _ => ⟨_, rfl, fun j hj => ?_⟩⟩
  rw [add_plain, cell_of_row _ _ j _ _ _ hb]
  match j, hj with
  | 0, _ => rfl
  | 1, _ => rfl
  | 2, _ => rfl
  | 3, _ => rfl
  | 4, _ => rfl
  | 5, _ => rfl
  | 6, _ => rfl
  | 7, _ => rfl
  | 8, _ => rfl
  | 9, _ => rfl
  | 10, _ => rfl
  | 11, _ => rfl
  | 12, _ => rfl
  | 13, _ => rfl
  | j + 14, h => omega
set_option maxHeartbeats 8000000 in
set_option maxRecDepth 100000 in
theorem haulierlaw04_awake.calls  (r : Bool) (w : World) (h : haulierlaw04_awake.f  = some r) :
    Calls Try.prog 8 #[] w fun e w' => e = .returned (.bool r) ∧ Below w.heap.size w w' := by
  have HB := Aside0.mk (Below.refl w.heap.size w)
  have H : ((scan_Lines.f (([49, 32, 45, 50, 32, 32, 35, 32, 120, 10, 10, 48, 48, 55] : List Int))).bind fun bt105 => (if bt105.2 = 0 then (if (bt105.1.length : Int) = 2 then (if 0 < (bt105.1.length : Int) then (if ((rd_L2 bt105.1 0).length : Int) = 2 then (if 1 < ((rd_L2 bt105.1 0).length : Int) then (if (rd (rd_L2 bt105.1 0) 1) = (-2) then (if 1 < (bt105.1.length : Int) then (if ((rd_L2 bt105.1 1).length : Int) = 1 then (if 0 < ((rd_L2 bt105.1 1).length : Int) then (some ((rd (rd_L2 bt105.1 1) 0) == 7)) else (none)) else (some false)) else (none)) else (some false)) else (none)) else (some false)) else (none)) else (some false)) else (some false))) = some r := h
  clear h
  obtain ⟨y102, hy102⟩ : ∃ y_ : List Int, y_ = (([49, 32, 45, 50, 32, 32, 35, 32, 120, 10, 10, 48, 48, 55] : List Int)) := ⟨_, rfl⟩
  replace H : ((scan_Lines.f y102).bind fun bt105 => (if bt105.2 = 0 then (if (bt105.1.length : Int) = 2 then (if 0 < (bt105.1.length : Int) then (if ((rd_L2 bt105.1 0).length : Int) = 2 then (if 1 < ((rd_L2 bt105.1 0).length : Int) then (if (rd (rd_L2 bt105.1 0) 1) = (-2) then (if 1 < (bt105.1.length : Int) then (if ((rd_L2 bt105.1 1).length : Int) = 1 then (if 0 < ((rd_L2 bt105.1 1).length : Int) then (some ((rd (rd_L2 bt105.1 1) 0) == 7)) else (none)) else (some false)) else (none)) else (some false)) else (none)) else (some false)) else (none)) else (some false)) else (some false))) = some r := by first | (rw [hy102]; with_reducible exact H) | (have H2_ := (Option.bind_some _ _).symm.trans H; rw [hy102]; with_reducible exact H2_) | (have H2_ := (Option.bind_some _ _).symm.trans H; with_reducible exact H2_) | with_reducible exact H | (rw [hy102]; exact H) | exact H
  have Ny102 := Aside0.mk hy102
  clear hy102
  replace H := Option.bind_eq_some_iff.mp H
  obtain ⟨⟨t105, t106⟩, A10, H⟩ := H
  replace H : (if t106 = 0 then (if (t105.length : Int) = 2 then (if 0 < (t105.length : Int) then (if ((rd_L2 t105 0).length : Int) = 2 then (if 1 < ((rd_L2 t105 0).length : Int) then (if (rd (rd_L2 t105 0) 1) = (-2) then (if 1 < (t105.length : Int) then (if ((rd_L2 t105 1).length : Int) = 1 then (if 0 < ((rd_L2 t105 1).length : Int) then (some ((rd (rd_L2 t105 1) 0) == 7)) else (none)) else (some false)) else (none)) else (some false)) else (none)) else (some false)) else (none)) else (some false)) else (some false)) = some r := H
  have A1 := Aside0.mk A10
  clear A10
  by_cases c2 : t106 = 0
  · rw [if_pos c2] at H
    have c2b0 : (t106 == 0) = true := beq_iff_eq.mpr c2
    have c2b1 : (t106 != 0) = false := bne_eq_false_iff_eq.mpr c2
    clear c2
    by_cases c3 : (t105.length : Int) = 2
    · rw [if_pos c3] at H
      have c3b0 : ((t105.length : Int) == 2) = true := beq_iff_eq.mpr c3
      have c3b1 : ((t105.length : Int) != 2) = false := bne_eq_false_iff_eq.mpr c3
      clear c3
      by_cases c4 : 0 < (t105.length : Int)
      · rw [if_pos c4] at H
        have c4b0 : decide (0 < (t105.length : Int)) = true := decide_eq_true c4
        have c4b1 : decide (0 < t105.length) = true := decide_eq_true (by omega)
        clear c4
        by_cases c5 : ((rd_L2 t105 0).length : Int) = 2
        · rw [if_pos c5] at H
          have c5b0 : (((rd_L2 t105 0).length : Int) == 2) = true := beq_iff_eq.mpr c5
          have c5b1 : (((rd_L2 t105 0).length : Int) != 2) = false := bne_eq_false_iff_eq.mpr c5
          clear c5
          by_cases c6 : 1 < ((rd_L2 t105 0).length : Int)
          · rw [if_pos c6] at H
            have c6b0 : decide (1 < ((rd_L2 t105 0).length : Int)) = true := decide_eq_true c6
            have c6b1 : decide (1 < (rd_L2 t105 0).length) = true := decide_eq_true (by omega)
            clear c6
            by_cases c7 : (rd (rd_L2 t105 0) 1) = (-2)
            · rw [if_pos c7] at H
              have c7b0 : ((rd (rd_L2 t105 0) 1) == (-2)) = true := beq_iff_eq.mpr c7
              have c7b1 : ((rd (rd_L2 t105 0) 1) != (-2)) = false := bne_eq_false_iff_eq.mpr c7
              clear c7
              by_cases c8 : 1 < (t105.length : Int)
              · rw [if_pos c8] at H
                have c8b0 : decide (1 < (t105.length : Int)) = true := decide_eq_true c8
                have c8b1 : decide (1 < t105.length) = true := decide_eq_true (by omega)
                clear c8
                by_cases c9 : ((rd_L2 t105 1).length : Int) = 1
                · rw [if_pos c9] at H
                  have c9b0 : (((rd_L2 t105 1).length : Int) == 1) = true := beq_iff_eq.mpr c9
                  have c9b1 : (((rd_L2 t105 1).length : Int) != 1) = false := bne_eq_false_iff_eq.mpr c9
                  clear c9
                  by_cases c10 : 0 < ((rd_L2 t105 1).length : Int)
                  · rw [if_pos c10] at H
                    have c10b0 : decide (0 < ((rd_L2 t105 1).length : Int)) = true := decide_eq_true c10
                    have c10b1 : decide (0 < (rd_L2 t105 1).length) = true := decide_eq_true (by omega)
                    clear c10
                    obtain rfl := Option.some.inj H
                    obtain ⟨hy_⟩ := Ny102
                    subst hy_
                    have kc := fun (W : World) (C : Array Value) (n c : Nat) => Lib.run_convert_bytes_const (P := Try.prog) W 22 5 C n c Try.underlying22 Try.underlying5
                    go_enter Try.func8, Try.ntmps8
                    go_wp2_with (first | ((with_reducible refine gate_callee (f := 9) rfl ?_); refine goesL_ (some 6) rfl rfl Try.func9 (by kernel_rfl) rfl #[.slice (some ⟨w.heap.size, 0, none⟩) 14 14] rfl (by (try simp only [List.map_toArray, List.map_cons, List.map_nil]); first | done | rfl | (simp only [List.length_drop, List.length_take]; rfl)) ?_; (refine (scan_Lines.calls (some ⟨w.heap.size, 0, none⟩) 14 ([49, 32, 45, 50, 32, 32, 35, 32, 120, 10, 10, 48, 48, 55] : List Int) t105 t106 _ ?side1 ?side2 A1.out).mono ?_); (case side1 => exact haulierlaw04_awake.lit_C w); (case side2 => exact Nat.le_refl _); rintro e w14 ⟨v107, rfl, ho0, hb⟩; refine ⟨_, rfl, ?_⟩; have n1_ := Aside0.mk (Kd.S_lower ho0 (below_size (by repeat (first | (with_reducible first | exact HB.out | apply below_alloc | apply pw_below_drewN | apply below_drew1) | exact HB.out)))); have n2_ := Aside0.mk (below_step (by repeat (first | (with_reducible first | exact HB.out | apply below_alloc | apply pw_below_drewN | apply below_drew1) | exact HB.out)) hb); clear HB; have HO108 := n1_; have HB := n2_; clear n1_ n2_; (try clear hb); (try clear hb2); (try clear hk); (try clear hi); (try clear ho0); obtain ⟨Ao15, co15, eo15⟩ := Kd.S_slice HO108.out; subst eo15; have p109 : 0 ≤ (0 : Int) := (by omega); have q109 : 0 < (t105.length : Int) := of_decide_eq_true (by first | (with_reducible assumption) | assumption); obtain ⟨ad109, A109_0, c109_0, e109, hx109_0, hl109_0, hi109_0⟩ := at_L2 (Kd.S_reads' HO108.out).2.2 0 p109 q109; cases e109; obtain ⟨ce109, hce109, hMe109, hcc109⟩ := Kd.S_get HO108.out [] 0 p109 (by first | exact q109 | exact of_decide_eq_true (by first | (with_reducible assumption) | assumption) | (have e_ := (Kd.S_reads' HO108.out).1; omega)); obtain ⟨ve109_0, rfl, ge109_0⟩ := hMe109; have hv109_0 := hcc109 0 _ rfl; rw [Nat.add_zero, show ((Kd.slice 3 (Kd.int .i64))).sz = 1 from rfl, Nat.mul_one] at hv109_0; replace hv109_0 := Option.some.inj (hv109_0.symm.trans hx109_0); rw [hv109_0] at ge109_0; have HL109_0 := Aside0.mk (show Kd.R (Kd.int .i64) 3 _ _ _ _ (rd_L2 t105 0) from ge109_0); clear hv109_0 ge109_0; clear hcc109 hce109; have qi109 : (0 < t105.length) = True := eq_true (by omega); (try rw [show ((0 : Int)).toNat = 0 from rfl] at hx109_0); (try rw [Addr.add_zero'] at hx109_0); have HR109_0 := Aside0.mk hi109_0; have HC109_0 := Aside0.mk hl109_0; clear hi109_0 hl109_0; replace p109 := eq_true p109; replace q109 := eq_true q109; have p110 : 0 ≤ (0 : Int) := (by omega); have q110 : 0 < (t105.length : Int) := of_decide_eq_true (by first | (with_reducible assumption) | assumption); obtain ⟨ad110, A110_0, c110_0, e110, hx110_0, hl110_0, hi110_0⟩ := at_L2 (Kd.S_reads' HO108.out).2.2 0 p110 q110; obtain rfl : ad109 = ad110 := (by injection e110); obtain ⟨ce110, hce110, hMe110, hcc110⟩ := Kd.S_get HO108.out [] 0 p110 (by first | exact q110 | exact of_decide_eq_true (by first | (with_reducible assumption) | assumption) | (have e_ := (Kd.S_reads' HO108.out).1; omega)); obtain ⟨ve110_0, rfl, ge110_0⟩ := hMe110; have hv110_0 := hcc110 0 _ rfl; rw [Nat.add_zero, show ((Kd.slice 3 (Kd.int .i64))).sz = 1 from rfl, Nat.mul_one] at hv110_0; replace hv110_0 := Option.some.inj (hv110_0.symm.trans hx110_0); rw [hv110_0] at ge110_0; have HL110_0 := Aside0.mk (show Kd.R (Kd.int .i64) 3 _ _ _ _ (rd_L2 t105 0) from ge110_0); clear hv110_0 ge110_0; clear hcc110 hce110; have qi110 : (0 < t105.length) = True := eq_true (by omega); (try rw [show ((0 : Int)).toNat = 0 from rfl] at hx110_0); (try rw [Addr.add_zero'] at hx110_0); have HR110_0 := Aside0.mk hi110_0; have HC110_0 := Aside0.mk hl110_0; clear hi110_0 hl110_0; replace p110 := eq_true p110; replace q110 := eq_true q110; have ea_ := Option.some.inj (hx109_0.symm.trans hx110_0); injection ea_ with ea_ en_ ec_; subst ea_; subst ec_; clear en_; have p111 : 0 ≤ (1 : Int) := (by omega); have q111 : 1 < ((rd_L2 t105 0).length : Int) := of_decide_eq_true (by first | (with_reducible assumption) | assumption); obtain ⟨ad111, e111, hx111_0⟩ := Kd.at_int (by repeat (first | (with_reducible exact HR110_0.out) | (with_reducible refine Kd.C_alloc ?_ _) | (with_reducible refine Kd.C_drewN ?_ _) | (with_reducible refine Kd.C_drew ?_) | exact HR110_0.out)) 1 p111 q111; cases e111; (try simp only [show (1 : Int).toNat = 1 from rfl, Nat.reduceMul, Nat.reduceEqDiff, Go.Addr.add, ↓reduceIte] at hx111_0); have qi111 : (1 < (rd_L2 t105 0).length) = True := eq_true (by omega); (try rw [show ((1 : Int)).toNat = 1 from rfl] at hx111_0); replace p111 := eq_true p111; replace q111 := eq_true q111; have p112 : 0 ≤ (1 : Int) := (by omega); have q112 : 1 < (t105.length : Int) := of_decide_eq_true (by first | (with_reducible assumption) | assumption); obtain ⟨ad112, A112_0, c112_0, e112, hx112_0, hl112_0, hi112_0⟩ := at_L2 (Kd.S_reads' HO108.out).2.2 1 p112 q112; obtain rfl : ad109 = ad112 := (by injection e112); obtain ⟨ce112, hce112, hMe112, hcc112⟩ := Kd.S_get HO108.out [] 1 p112 (by first | exact q112 | exact of_decide_eq_true (by first | (with_reducible assumption) | assumption) | (have e_ := (Kd.S_reads' HO108.out).1; omega)); obtain ⟨ve112_0, rfl, ge112_0⟩ := hMe112; have hv112_0 := hcc112 0 _ rfl; rw [Nat.add_zero, show ((Kd.slice 3 (Kd.int .i64))).sz = 1 from rfl, Nat.mul_one] at hv112_0; replace hv112_0 := Option.some.inj (hv112_0.symm.trans hx112_0); rw [hv112_0] at ge112_0; have HL112_0 := Aside0.mk (show Kd.R (Kd.int .i64) 3 _ _ _ _ (rd_L2 t105 1) from ge112_0); clear hv112_0 ge112_0; clear hcc112 hce112; (try simp only [show (1 : Int).toNat = 1 from rfl, Nat.reduceMul, Nat.reduceEqDiff, Go.Addr.add, ↓reduceIte] at hx112_0); have qi112 : (1 < t105.length) = True := eq_true (by omega); (try rw [show ((1 : Int)).toNat = 1 from rfl] at hx112_0); have HR112_0 := Aside0.mk hi112_0; have HC112_0 := Aside0.mk hl112_0; clear hi112_0 hl112_0; replace p112 := eq_true p112; replace q112 := eq_true q112; have p113 : 0 ≤ (1 : Int) := (by omega); have q113 : 1 < (t105.length : Int) := of_decide_eq_true (by first | (with_reducible assumption) | assumption); obtain ⟨ad113, A113_0, c113_0, e113, hx113_0, hl113_0, hi113_0⟩ := at_L2 (Kd.S_reads' HO108.out).2.2 1 p113 q113; obtain rfl : ad109 = ad113 := (by injection e113); obtain ⟨ce113, hce113, hMe113, hcc113⟩ := Kd.S_get HO108.out [] 1 p113 (by first | exact q113 | exact of_decide_eq_true (by first | (with_reducible assumption) | assumption) | (have e_ := (Kd.S_reads' HO108.out).1; omega)); obtain ⟨ve113_0, rfl, ge113_0⟩ := hMe113; have hv113_0 := hcc113 0 _ rfl; rw [Nat.add_zero, show ((Kd.slice 3 (Kd.int .i64))).sz = 1 from rfl, Nat.mul_one] at hv113_0; replace hv113_0 := Option.some.inj (hv113_0.symm.trans hx113_0); rw [hv113_0] at ge113_0; have HL113_0 := Aside0.mk (show Kd.R (Kd.int .i64) 3 _ _ _ _ (rd_L2 t105 1) from ge113_0); clear hv113_0 ge113_0; clear hcc113 hce113; (try simp only [show (1 : Int).toNat = 1 from rfl, Nat.reduceMul, Nat.reduceEqDiff, Go.Addr.add, ↓reduceIte] at hx113_0); have qi113 : (1 < t105.length) = True := eq_true (by omega); (try rw [show ((1 : Int)).toNat = 1 from rfl] at hx113_0); have HR113_0 := Aside0.mk hi113_0; have HC113_0 := Aside0.mk hl113_0; clear hi113_0 hl113_0; replace p113 := eq_true p113; replace q113 := eq_true q113; have ea_ := Option.some.inj (hx112_0.symm.trans hx113_0); injection ea_ with ea_ en_ ec_; subst ea_; subst ec_; clear en_; have p114 : 0 ≤ (0 : Int) := (by omega); have q114 : 0 < ((rd_L2 t105 1).length : Int) := of_decide_eq_true (by first | (with_reducible assumption) | assumption); obtain ⟨ad114, e114, hx114_0⟩ := Kd.at_int (by repeat (first | (with_reducible exact HR113_0.out) | (with_reducible refine Kd.C_alloc ?_ _) | (with_reducible refine Kd.C_drewN ?_ _) | (with_reducible refine Kd.C_drew ?_) | exact HR113_0.out)) 0 p114 q114; cases e114; have qi114 : (0 < (rd_L2 t105 1).length) = True := eq_true (by omega); (try rw [show ((0 : Int)).toNat = 0 from rfl] at hx114_0); (try rw [Addr.add_zero'] at hx114_0); replace p114 := eq_true p114; replace q114 := eq_true q114))
                    go_ret
                    exact ⟨by first | rfl | (simp [errW_none, errW_some] <;> rfl) | (simp [*, errW_none, errW_some] <;> rfl), by repeat (first | (with_reducible first | exact HB.out | apply below_alloc | apply pw_below_drewN | apply below_drew1) | exact HB.out)⟩
                  · rw [if_neg c10] at H
                    exact absurd H (by simp)
                · rw [if_neg c9] at H
                  have c9b0 : (((rd_L2 t105 1).length : Int) == 1) = false := beq_eq_false_iff_ne.mpr c9
                  have c9b1 : (((rd_L2 t105 1).length : Int) != 1) = true := bne_iff_ne.mpr c9
                  obtain rfl := Option.some.inj H
                  obtain ⟨hy_⟩ := Ny102
                  subst hy_
                  have kc := fun (W : World) (C : Array Value) (n c : Nat) => Lib.run_convert_bytes_const (P := Try.prog) W 22 5 C n c Try.underlying22 Try.underlying5
                  go_enter Try.func8, Try.ntmps8
                  go_wp2_with (first | ((with_reducible refine gate_callee (f := 9) rfl ?_); refine goesL_ (some 6) rfl rfl Try.func9 (by kernel_rfl) rfl #[.slice (some ⟨w.heap.size, 0, none⟩) 14 14] rfl (by (try simp only [List.map_toArray, List.map_cons, List.map_nil]); first | done | rfl | (simp only [List.length_drop, List.length_take]; rfl)) ?_; (refine (scan_Lines.calls (some ⟨w.heap.size, 0, none⟩) 14 ([49, 32, 45, 50, 32, 32, 35, 32, 120, 10, 10, 48, 48, 55] : List Int) t105 t106 _ ?side1 ?side2 A1.out).mono ?_); (case side1 => exact haulierlaw04_awake.lit_C w); (case side2 => exact Nat.le_refl _); rintro e w19 ⟨v107, rfl, ho0, hb⟩; refine ⟨_, rfl, ?_⟩; have n1_ := Aside0.mk (Kd.S_lower ho0 (below_size (by repeat (first | (with_reducible first | exact HB.out | apply below_alloc | apply pw_below_drewN | apply below_drew1) | exact HB.out)))); have n2_ := Aside0.mk (below_step (by repeat (first | (with_reducible first | exact HB.out | apply below_alloc | apply pw_below_drewN | apply below_drew1) | exact HB.out)) hb); clear HB; have HO108 := n1_; have HB := n2_; clear n1_ n2_; (try clear hb); (try clear hb2); (try clear hk); (try clear hi); (try clear ho0); obtain ⟨Ao20, co20, eo20⟩ := Kd.S_slice HO108.out; subst eo20; have p109 : 0 ≤ (0 : Int) := (by omega); have q109 : 0 < (t105.length : Int) := of_decide_eq_true (by first | (with_reducible assumption) | assumption); obtain ⟨ad109, A109_0, c109_0, e109, hx109_0, hl109_0, hi109_0⟩ := at_L2 (Kd.S_reads' HO108.out).2.2 0 p109 q109; cases e109; obtain ⟨ce109, hce109, hMe109, hcc109⟩ := Kd.S_get HO108.out [] 0 p109 (by first | exact q109 | exact of_decide_eq_true (by first | (with_reducible assumption) | assumption) | (have e_ := (Kd.S_reads' HO108.out).1; omega)); obtain ⟨ve109_0, rfl, ge109_0⟩ := hMe109; have hv109_0 := hcc109 0 _ rfl; rw [Nat.add_zero, show ((Kd.slice 3 (Kd.int .i64))).sz = 1 from rfl, Nat.mul_one] at hv109_0; replace hv109_0 := Option.some.inj (hv109_0.symm.trans hx109_0); rw [hv109_0] at ge109_0; have HL109_0 := Aside0.mk (show Kd.R (Kd.int .i64) 3 _ _ _ _ (rd_L2 t105 0) from ge109_0); clear hv109_0 ge109_0; clear hcc109 hce109; have qi109 : (0 < t105.length) = True := eq_true (by omega); (try rw [show ((0 : Int)).toNat = 0 from rfl] at hx109_0); (try rw [Addr.add_zero'] at hx109_0); have HR109_0 := Aside0.mk hi109_0; have HC109_0 := Aside0.mk hl109_0; clear hi109_0 hl109_0; replace p109 := eq_true p109; replace q109 := eq_true q109; have p110 : 0 ≤ (0 : Int) := (by omega); have q110 : 0 < (t105.length : Int) := of_decide_eq_true (by first | (with_reducible assumption) | assumption); obtain ⟨ad110, A110_0, c110_0, e110, hx110_0, hl110_0, hi110_0⟩ := at_L2 (Kd.S_reads' HO108.out).2.2 0 p110 q110; obtain rfl : ad109 = ad110 := (by injection e110); obtain ⟨ce110, hce110, hMe110, hcc110⟩ := Kd.S_get HO108.out [] 0 p110 (by first | exact q110 | exact of_decide_eq_true (by first | (with_reducible assumption) | assumption) | (have e_ := (Kd.S_reads' HO108.out).1; omega)); obtain ⟨ve110_0, rfl, ge110_0⟩ := hMe110; have hv110_0 := hcc110 0 _ rfl; rw [Nat.add_zero, show ((Kd.slice 3 (Kd.int .i64))).sz = 1 from rfl, Nat.mul_one] at hv110_0; replace hv110_0 := Option.some.inj (hv110_0.symm.trans hx110_0); rw [hv110_0] at ge110_0; have HL110_0 := Aside0.mk (show Kd.R (Kd.int .i64) 3 _ _ _ _ (rd_L2 t105 0) from ge110_0); clear hv110_0 ge110_0; clear hcc110 hce110; have qi110 : (0 < t105.length) = True := eq_true (by omega); (try rw [show ((0 : Int)).toNat = 0 from rfl] at hx110_0); (try rw [Addr.add_zero'] at hx110_0); have HR110_0 := Aside0.mk hi110_0; have HC110_0 := Aside0.mk hl110_0; clear hi110_0 hl110_0; replace p110 := eq_true p110; replace q110 := eq_true q110; have ea_ := Option.some.inj (hx109_0.symm.trans hx110_0); injection ea_ with ea_ en_ ec_; subst ea_; subst ec_; clear en_; have p111 : 0 ≤ (1 : Int) := (by omega); have q111 : 1 < ((rd_L2 t105 0).length : Int) := of_decide_eq_true (by first | (with_reducible assumption) | assumption); obtain ⟨ad111, e111, hx111_0⟩ := Kd.at_int (by repeat (first | (with_reducible exact HR110_0.out) | (with_reducible refine Kd.C_alloc ?_ _) | (with_reducible refine Kd.C_drewN ?_ _) | (with_reducible refine Kd.C_drew ?_) | exact HR110_0.out)) 1 p111 q111; cases e111; (try simp only [show (1 : Int).toNat = 1 from rfl, Nat.reduceMul, Nat.reduceEqDiff, Go.Addr.add, ↓reduceIte] at hx111_0); have qi111 : (1 < (rd_L2 t105 0).length) = True := eq_true (by omega); (try rw [show ((1 : Int)).toNat = 1 from rfl] at hx111_0); replace p111 := eq_true p111; replace q111 := eq_true q111; have p112 : 0 ≤ (1 : Int) := (by omega); have q112 : 1 < (t105.length : Int) := of_decide_eq_true (by first | (with_reducible assumption) | assumption); obtain ⟨ad112, A112_0, c112_0, e112, hx112_0, hl112_0, hi112_0⟩ := at_L2 (Kd.S_reads' HO108.out).2.2 1 p112 q112; obtain rfl : ad109 = ad112 := (by injection e112); obtain ⟨ce112, hce112, hMe112, hcc112⟩ := Kd.S_get HO108.out [] 1 p112 (by first | exact q112 | exact of_decide_eq_true (by first | (with_reducible assumption) | assumption) | (have e_ := (Kd.S_reads' HO108.out).1; omega)); obtain ⟨ve112_0, rfl, ge112_0⟩ := hMe112; have hv112_0 := hcc112 0 _ rfl; rw [Nat.add_zero, show ((Kd.slice 3 (Kd.int .i64))).sz = 1 from rfl, Nat.mul_one] at hv112_0; replace hv112_0 := Option.some.inj (hv112_0.symm.trans hx112_0); rw [hv112_0] at ge112_0; have HL112_0 := Aside0.mk (show Kd.R (Kd.int .i64) 3 _ _ _ _ (rd_L2 t105 1) from ge112_0); clear hv112_0 ge112_0; clear hcc112 hce112; (try simp only [show (1 : Int).toNat = 1 from rfl, Nat.reduceMul, Nat.reduceEqDiff, Go.Addr.add, ↓reduceIte] at hx112_0); have qi112 : (1 < t105.length) = True := eq_true (by omega); (try rw [show ((1 : Int)).toNat = 1 from rfl] at hx112_0); have HR112_0 := Aside0.mk hi112_0; have HC112_0 := Aside0.mk hl112_0; clear hi112_0 hl112_0; replace p112 := eq_true p112; replace q112 := eq_true q112))
                  go_ret
                  exact ⟨by first | rfl | (simp [errW_none, errW_some] <;> rfl) | (simp [*, errW_none, errW_some] <;> rfl), by repeat (first | (with_reducible first | exact HB.out | apply below_alloc | apply pw_below_drewN | apply below_drew1) | exact HB.out)⟩
              · rw [if_neg c8] at H
                exact absurd H (by simp)
            · rw [if_neg c7] at H
              have c7b0 : ((rd (rd_L2 t105 0) 1) == (-2)) = false := beq_eq_false_iff_ne.mpr c7
              have c7b1 : ((rd (rd_L2 t105 0) 1) != (-2)) = true := bne_iff_ne.mpr c7
              obtain rfl := Option.some.inj H
              obtain ⟨hy_⟩ := Ny102
              subst hy_
              have kc := fun (W : World) (C : Array Value) (n c : Nat) => Lib.run_convert_bytes_const (P := Try.prog) W 22 5 C n c Try.underlying22 Try.underlying5
              go_enter Try.func8, Try.ntmps8
              go_wp2_with (first | ((with_reducible refine gate_callee (f := 9) rfl ?_); refine goesL_ (some 6) rfl rfl Try.func9 (by kernel_rfl) rfl #[.slice (some ⟨w.heap.size, 0, none⟩) 14 14] rfl (by (try simp only [List.map_toArray, List.map_cons, List.map_nil]); first | done | rfl | (simp only [List.length_drop, List.length_take]; rfl)) ?_; (refine (scan_Lines.calls (some ⟨w.heap.size, 0, none⟩) 14 ([49, 32, 45, 50, 32, 32, 35, 32, 120, 10, 10, 48, 48, 55] : List Int) t105 t106 _ ?side1 ?side2 A1.out).mono ?_); (case side1 => exact haulierlaw04_awake.lit_C w); (case side2 => exact Nat.le_refl _); rintro e w24 ⟨v107, rfl, ho0, hb⟩; refine ⟨_, rfl, ?_⟩; have n1_ := Aside0.mk (Kd.S_lower ho0 (below_size (by repeat (first | (with_reducible first | exact HB.out | apply below_alloc | apply pw_below_drewN | apply below_drew1) | exact HB.out)))); have n2_ := Aside0.mk (below_step (by repeat (first | (with_reducible first | exact HB.out | apply below_alloc | apply pw_below_drewN | apply below_drew1) | exact HB.out)) hb); clear HB; have HO108 := n1_; have HB := n2_; clear n1_ n2_; (try clear hb); (try clear hb2); (try clear hk); (try clear hi); (try clear ho0); obtain ⟨Ao25, co25, eo25⟩ := Kd.S_slice HO108.out; subst eo25; have p109 : 0 ≤ (0 : Int) := (by omega); have q109 : 0 < (t105.length : Int) := of_decide_eq_true (by first | (with_reducible assumption) | assumption); obtain ⟨ad109, A109_0, c109_0, e109, hx109_0, hl109_0, hi109_0⟩ := at_L2 (Kd.S_reads' HO108.out).2.2 0 p109 q109; cases e109; obtain ⟨ce109, hce109, hMe109, hcc109⟩ := Kd.S_get HO108.out [] 0 p109 (by first | exact q109 | exact of_decide_eq_true (by first | (with_reducible assumption) | assumption) | (have e_ := (Kd.S_reads' HO108.out).1; omega)); obtain ⟨ve109_0, rfl, ge109_0⟩ := hMe109; have hv109_0 := hcc109 0 _ rfl; rw [Nat.add_zero, show ((Kd.slice 3 (Kd.int .i64))).sz = 1 from rfl, Nat.mul_one] at hv109_0; replace hv109_0 := Option.some.inj (hv109_0.symm.trans hx109_0); rw [hv109_0] at ge109_0; have HL109_0 := Aside0.mk (show Kd.R (Kd.int .i64) 3 _ _ _ _ (rd_L2 t105 0) from ge109_0); clear hv109_0 ge109_0; clear hcc109 hce109; have qi109 : (0 < t105.length) = True := eq_true (by omega); (try rw [show ((0 : Int)).toNat = 0 from rfl] at hx109_0); (try rw [Addr.add_zero'] at hx109_0); have HR109_0 := Aside0.mk hi109_0; have HC109_0 := Aside0.mk hl109_0; clear hi109_0 hl109_0; replace p109 := eq_true p109; replace q109 := eq_true q109; have p110 : 0 ≤ (0 : Int) := (by omega); have q110 : 0 < (t105.length : Int) := of_decide_eq_true (by first | (with_reducible assumption) | assumption); obtain ⟨ad110, A110_0, c110_0, e110, hx110_0, hl110_0, hi110_0⟩ := at_L2 (Kd.S_reads' HO108.out).2.2 0 p110 q110; obtain rfl : ad109 = ad110 := (by injection e110); obtain ⟨ce110, hce110, hMe110, hcc110⟩ := Kd.S_get HO108.out [] 0 p110 (by first | exact q110 | exact of_decide_eq_true (by first | (with_reducible assumption) | assumption) | (have e_ := (Kd.S_reads' HO108.out).1; omega)); obtain ⟨ve110_0, rfl, ge110_0⟩ := hMe110; have hv110_0 := hcc110 0 _ rfl; rw [Nat.add_zero, show ((Kd.slice 3 (Kd.int .i64))).sz = 1 from rfl, Nat.mul_one] at hv110_0; replace hv110_0 := Option.some.inj (hv110_0.symm.trans hx110_0); rw [hv110_0] at ge110_0; have HL110_0 := Aside0.mk (show Kd.R (Kd.int .i64) 3 _ _ _ _ (rd_L2 t105 0) from ge110_0); clear hv110_0 ge110_0; clear hcc110 hce110; have qi110 : (0 < t105.length) = True := eq_true (by omega); (try rw [show ((0 : Int)).toNat = 0 from rfl] at hx110_0); (try rw [Addr.add_zero'] at hx110_0); have HR110_0 := Aside0.mk hi110_0; have HC110_0 := Aside0.mk hl110_0; clear hi110_0 hl110_0; replace p110 := eq_true p110; replace q110 := eq_true q110; have ea_ := Option.some.inj (hx109_0.symm.trans hx110_0); injection ea_ with ea_ en_ ec_; subst ea_; subst ec_; clear en_; have p111 : 0 ≤ (1 : Int) := (by omega); have q111 : 1 < ((rd_L2 t105 0).length : Int) := of_decide_eq_true (by first | (with_reducible assumption) | assumption); obtain ⟨ad111, e111, hx111_0⟩ := Kd.at_int (by repeat (first | (with_reducible exact HR110_0.out) | (with_reducible refine Kd.C_alloc ?_ _) | (with_reducible refine Kd.C_drewN ?_ _) | (with_reducible refine Kd.C_drew ?_) | exact HR110_0.out)) 1 p111 q111; cases e111; (try simp only [show (1 : Int).toNat = 1 from rfl, Nat.reduceMul, Nat.reduceEqDiff, Go.Addr.add, ↓reduceIte] at hx111_0); have qi111 : (1 < (rd_L2 t105 0).length) = True := eq_true (by omega); (try rw [show ((1 : Int)).toNat = 1 from rfl] at hx111_0); replace p111 := eq_true p111; replace q111 := eq_true q111))
              go_ret
              exact ⟨by first | rfl | (simp [errW_none, errW_some] <;> rfl) | (simp [*, errW_none, errW_some] <;> rfl), by repeat (first | (with_reducible first | exact HB.out | apply below_alloc | apply pw_below_drewN | apply below_drew1) | exact HB.out)⟩
          · rw [if_neg c6] at H
            exact absurd H (by simp)
        · rw [if_neg c5] at H
          have c5b0 : (((rd_L2 t105 0).length : Int) == 2) = false := beq_eq_false_iff_ne.mpr c5
          have c5b1 : (((rd_L2 t105 0).length : Int) != 2) = true := bne_iff_ne.mpr c5
          obtain rfl := Option.some.inj H
          obtain ⟨hy_⟩ := Ny102
          subst hy_
          have kc := fun (W : World) (C : Array Value) (n c : Nat) => Lib.run_convert_bytes_const (P := Try.prog) W 22 5 C n c Try.underlying22 Try.underlying5
          go_enter Try.func8, Try.ntmps8
          go_wp2_with (first | ((with_reducible refine gate_callee (f := 9) rfl ?_); refine goesL_ (some 6) rfl rfl Try.func9 (by kernel_rfl) rfl #[.slice (some ⟨w.heap.size, 0, none⟩) 14 14] rfl (by (try simp only [List.map_toArray, List.map_cons, List.map_nil]); first | done | rfl | (simp only [List.length_drop, List.length_take]; rfl)) ?_; (refine (scan_Lines.calls (some ⟨w.heap.size, 0, none⟩) 14 ([49, 32, 45, 50, 32, 32, 35, 32, 120, 10, 10, 48, 48, 55] : List Int) t105 t106 _ ?side1 ?side2 A1.out).mono ?_); (case side1 => exact haulierlaw04_awake.lit_C w); (case side2 => exact Nat.le_refl _); rintro e w29 ⟨v107, rfl, ho0, hb⟩; refine ⟨_, rfl, ?_⟩; have n1_ := Aside0.mk (Kd.S_lower ho0 (below_size (by repeat (first | (with_reducible first | exact HB.out | apply below_alloc | apply pw_below_drewN | apply below_drew1) | exact HB.out)))); have n2_ := Aside0.mk (below_step (by repeat (first | (with_reducible first | exact HB.out | apply below_alloc | apply pw_below_drewN | apply below_drew1) | exact HB.out)) hb); clear HB; have HO108 := n1_; have HB := n2_; clear n1_ n2_; (try clear hb); (try clear hb2); (try clear hk); (try clear hi); (try clear ho0); obtain ⟨Ao30, co30, eo30⟩ := Kd.S_slice HO108.out; subst eo30; have p109 : 0 ≤ (0 : Int) := (by omega); have q109 : 0 < (t105.length : Int) := of_decide_eq_true (by first | (with_reducible assumption) | assumption); obtain ⟨ad109, A109_0, c109_0, e109, hx109_0, hl109_0, hi109_0⟩ := at_L2 (Kd.S_reads' HO108.out).2.2 0 p109 q109; cases e109; obtain ⟨ce109, hce109, hMe109, hcc109⟩ := Kd.S_get HO108.out [] 0 p109 (by first | exact q109 | exact of_decide_eq_true (by first | (with_reducible assumption) | assumption) | (have e_ := (Kd.S_reads' HO108.out).1; omega)); obtain ⟨ve109_0, rfl, ge109_0⟩ := hMe109; have hv109_0 := hcc109 0 _ rfl; rw [Nat.add_zero, show ((Kd.slice 3 (Kd.int .i64))).sz = 1 from rfl, Nat.mul_one] at hv109_0; replace hv109_0 := Option.some.inj (hv109_0.symm.trans hx109_0); rw [hv109_0] at ge109_0; have HL109_0 := Aside0.mk (show Kd.R (Kd.int .i64) 3 _ _ _ _ (rd_L2 t105 0) from ge109_0); clear hv109_0 ge109_0; clear hcc109 hce109; have qi109 : (0 < t105.length) = True := eq_true (by omega); (try rw [show ((0 : Int)).toNat = 0 from rfl] at hx109_0); (try rw [Addr.add_zero'] at hx109_0); have HR109_0 := Aside0.mk hi109_0; have HC109_0 := Aside0.mk hl109_0; clear hi109_0 hl109_0; replace p109 := eq_true p109; replace q109 := eq_true q109))
          go_ret
          exact ⟨by first | rfl | (simp [errW_none, errW_some] <;> rfl) | (simp [*, errW_none, errW_some] <;> rfl), by repeat (first | (with_reducible first | exact HB.out | apply below_alloc | apply pw_below_drewN | apply below_drew1) | exact HB.out)⟩
      · rw [if_neg c4] at H
        exact absurd H (by simp)
    · rw [if_neg c3] at H
      have c3b0 : ((t105.length : Int) == 2) = false := beq_eq_false_iff_ne.mpr c3
      have c3b1 : ((t105.length : Int) != 2) = true := bne_iff_ne.mpr c3
      obtain rfl := Option.some.inj H
      obtain ⟨hy_⟩ := Ny102
      subst hy_
      have kc := fun (W : World) (C : Array Value) (n c : Nat) => Lib.run_convert_bytes_const (P := Try.prog) W 22 5 C n c Try.underlying22 Try.underlying5
      go_enter Try.func8, Try.ntmps8
      go_wp2_with (first | ((with_reducible refine gate_callee (f := 9) rfl ?_); refine goesL_ (some 6) rfl rfl Try.func9 (by kernel_rfl) rfl #[.slice (some ⟨w.heap.size, 0, none⟩) 14 14] rfl (by (try simp only [List.map_toArray, List.map_cons, List.map_nil]); first | done | rfl | (simp only [List.length_drop, List.length_take]; rfl)) ?_; (refine (scan_Lines.calls (some ⟨w.heap.size, 0, none⟩) 14 ([49, 32, 45, 50, 32, 32, 35, 32, 120, 10, 10, 48, 48, 55] : List Int) t105 t106 _ ?side1 ?side2 A1.out).mono ?_); (case side1 => exact haulierlaw04_awake.lit_C w); (case side2 => exact Nat.le_refl _); rintro e w34 ⟨v107, rfl, ho0, hb⟩; refine ⟨_, rfl, ?_⟩; have n1_ := Aside0.mk (Kd.S_lower ho0 (below_size (by repeat (first | (with_reducible first | exact HB.out | apply below_alloc | apply pw_below_drewN | apply below_drew1) | exact HB.out)))); have n2_ := Aside0.mk (below_step (by repeat (first | (with_reducible first | exact HB.out | apply below_alloc | apply pw_below_drewN | apply below_drew1) | exact HB.out)) hb); clear HB; have HO108 := n1_; have HB := n2_; clear n1_ n2_; (try clear hb); (try clear hb2); (try clear hk); (try clear hi); (try clear ho0); obtain ⟨Ao35, co35, eo35⟩ := Kd.S_slice HO108.out; subst eo35))
      go_ret
      exact ⟨by first | rfl | (simp [errW_none, errW_some] <;> rfl) | (simp [*, errW_none, errW_some] <;> rfl), by repeat (first | (with_reducible first | exact HB.out | apply below_alloc | apply pw_below_drewN | apply below_drew1) | exact HB.out)⟩
  · rw [if_neg c2] at H
    have c2b0 : (t106 == 0) = false := beq_eq_false_iff_ne.mpr c2
    have c2b1 : (t106 != 0) = true := bne_iff_ne.mpr c2
    obtain rfl := Option.some.inj H
    obtain ⟨hy_⟩ := Ny102
    subst hy_
    have kc := fun (W : World) (C : Array Value) (n c : Nat) => Lib.run_convert_bytes_const (P := Try.prog) W 22 5 C n c Try.underlying22 Try.underlying5
    go_enter Try.func8, Try.ntmps8
    go_wp2_with (first | ((with_reducible refine gate_callee (f := 9) rfl ?_); refine goesL_ (some 6) rfl rfl Try.func9 (by kernel_rfl) rfl #[.slice (some ⟨w.heap.size, 0, none⟩) 14 14] rfl (by (try simp only [List.map_toArray, List.map_cons, List.map_nil]); first | done | rfl | (simp only [List.length_drop, List.length_take]; rfl)) ?_; (refine (scan_Lines.calls (some ⟨w.heap.size, 0, none⟩) 14 ([49, 32, 45, 50, 32, 32, 35, 32, 120, 10, 10, 48, 48, 55] : List Int) t105 t106 _ ?side1 ?side2 A1.out).mono ?_); (case side1 => exact haulierlaw04_awake.lit_C w); (case side2 => exact Nat.le_refl _); rintro e w39 ⟨v107, rfl, ho0, hb⟩; refine ⟨_, rfl, ?_⟩; have n1_ := Aside0.mk (Kd.S_lower ho0 (below_size (by repeat (first | (with_reducible first | exact HB.out | apply below_alloc | apply pw_below_drewN | apply below_drew1) | exact HB.out)))); have n2_ := Aside0.mk (below_step (by repeat (first | (with_reducible first | exact HB.out | apply below_alloc | apply pw_below_drewN | apply below_drew1) | exact HB.out)) hb); clear HB; have HO108 := n1_; have HB := n2_; clear n1_ n2_; (try clear hb); (try clear hb2); (try clear hk); (try clear hi); (try clear ho0)))
    go_ret
    exact ⟨by first | rfl | (simp [errW_none, errW_some] <;> rfl) | (simp [*, errW_none, errW_some] <;> rfl), by repeat (first | (with_reducible first | exact HB.out | apply below_alloc | apply pw_below_drewN | apply below_drew1) | exact HB.out)⟩

/-! ### haulierref04_word: function 21 -/
mutual
def haulierref04_word.j0 : Nat → List Int → Bool → Option (Int × Bool)
  | 0, _, _ => none
  | k + 1, x0, x4 => if x4 = true then (if 1 ≤ (x0.length : Int) then (haulierref04_word.j1 k (x0.drop 1) x4) else (none)) else (haulierref04_word.j1 k x0 x4)
def haulierref04_word.j1 : Nat → List Int → Bool → Option (Int × Bool)
  | 0, _, _ => none
  | k + 1, x0, x4 => if (x0.length : Int) < 1 then (haulierref04_word.j2 k x0 x4 true) else (haulierref04_word.j2 k x0 x4 (decide ((x0.length : Int) > 12)))
def haulierref04_word.j2 : Nat → List Int → Bool → Bool → Option (Int × Bool)
  | 0, _, _, _ => none
  | k + 1, x0, x4, x26 => if x26 = true then (some (0, false)) else (haulierref04_word.l0 k x0 x4 0 0)
def haulierref04_word.l0 : Nat → List Int → Bool → Int → Int → Option (Int × Bool)
  | 0, _, _, _, _ => none
  | k + 1, x0, x4, x5, x6 => if x6 < (x0.length : Int) then (if 0 ≤ x6 then (if (rd x0 x6) < 48 then (some (0, false)) else (if (rd x0 x6) > 57 then (some (0, false)) else (haulierref04_word.l0 k x0 x4 (wrap64 ((wrap64 (10 * x5)) + (((rd x0 x6) - 48) % 256))) (wrap64 (x6 + 1))))) else (none)) else (if x4 = true then (some (wrap64 (-x5), true)) else (some (x5, true)))
end
def haulierref04_word.f (k : Nat) (l0 : List Int) : Option (Int × Bool) := if (l0.length : Int) > 0 then (if 0 < (l0.length : Int) then (haulierref04_word.j0 k l0 ((rd l0 0) == 45)) else (none)) else (haulierref04_word.j0 k l0 false)
theorem haulierref04_word.mono_l : ∀ k, (∀ y0 y1, LeO (haulierref04_word.j0 k y0 y1) (haulierref04_word.j0 (k + 1) y0 y1)) ∧ (∀ y0 y1, LeO (haulierref04_word.j1 k y0 y1) (haulierref04_word.j1 (k + 1) y0 y1)) ∧ (∀ y0 y1 y2, LeO (haulierref04_word.j2 k y0 y1 y2) (haulierref04_word.j2 (k + 1) y0 y1 y2)) ∧ (∀ y0 y1 y2 y3, LeO (haulierref04_word.l0 k y0 y1 y2 y3) (haulierref04_word.l0 (k + 1) y0 y1 y2 y3))
  | 0 => ⟨fun _ _ r h => by simp [haulierref04_word.j0] at h, fun _ _ r h => by simp [haulierref04_word.j1] at h, fun _ _ _ r h => by simp [haulierref04_word.j2] at h, fun _ _ _ _ r h => by simp [haulierref04_word.l0] at h⟩
  | k + 1 => by
    obtain ⟨ih0, ih1, ih2, ih3⟩ := haulierref04_word.mono_l k
    refine ⟨?_, ?_, ?_, ?_⟩
    · intro y0 y1
      unfold haulierref04_word.j0
      repeat' first
      | (with_reducible exact ih0 _ _)
      | (with_reducible exact ih1 _ _)
      | (with_reducible exact ih2 _ _ _)
      | (with_reducible exact ih3 _ _ _ _)
      | (with_reducible exact LeO.refl _)
      | (with_reducible exact LeO.none _)
      | (with_reducible refine LeO.ite ?_ ?_)
      | (with_reducible refine LeO.bind ?_ (fun _ => ?_))
      | exact ih0 _ _
      | exact ih1 _ _
      | exact ih2 _ _ _
      | exact ih3 _ _ _ _
      | exact LeO.none _
      | refine LeO.ite ?_ ?_
      | refine LeO.bind ?_ (fun _ => ?_)
    · intro y0 y1
      unfold haulierref04_word.j1
      repeat' first
      | (with_reducible exact ih0 _ _)
      | (with_reducible exact ih1 _ _)
      | (with_reducible exact ih2 _ _ _)
      | (with_reducible exact ih3 _ _ _ _)
      | (with_reducible exact LeO.refl _)
      | (with_reducible exact LeO.none _)
      | (with_reducible refine LeO.ite ?_ ?_)
      | (with_reducible refine LeO.bind ?_ (fun _ => ?_))
      | exact ih0 _ _
      | exact ih1 _ _
      | exact ih2 _ _ _
      | exact ih3 _ _ _ _
      | exact LeO.none _
      | refine LeO.ite ?_ ?_
      | refine LeO.bind ?_ (fun _ => ?_)
    · intro y0 y1 y2
      unfold haulierref04_word.j2
      repeat' first
      | (with_reducible exact ih0 _ _)
      | (with_reducible exact ih1 _ _)
      | (with_reducible exact ih2 _ _ _)
      | (with_reducible exact ih3 _ _ _ _)
      | (with_reducible exact LeO.refl _)
      | (with_reducible exact LeO.none _)
      | (with_reducible refine LeO.ite ?_ ?_)
      | (with_reducible refine LeO.bind ?_ (fun _ => ?_))
      | exact ih0 _ _
      | exact ih1 _ _
      | exact ih2 _ _ _
      | exact ih3 _ _ _ _
      | exact LeO.none _
      | refine LeO.ite ?_ ?_
      | refine LeO.bind ?_ (fun _ => ?_)
    · intro y0 y1 y2 y3
      unfold haulierref04_word.l0
      repeat' first
      | (with_reducible exact ih0 _ _)
      | (with_reducible exact ih1 _ _)
      | (with_reducible exact ih2 _ _ _)
      | (with_reducible exact ih3 _ _ _ _)
      | (with_reducible exact LeO.refl _)
      | (with_reducible exact LeO.none _)
      | (with_reducible refine LeO.ite ?_ ?_)
      | (with_reducible refine LeO.bind ?_ (fun _ => ?_))
      | exact ih0 _ _
      | exact ih1 _ _
      | exact ih2 _ _ _
      | exact ih3 _ _ _ _
      | exact LeO.none _
      | refine LeO.ite ?_ ?_
      | refine LeO.bind ?_ (fun _ => ?_)
theorem haulierref04_word.mono : ∀ a0 k, LeO (haulierref04_word.f k a0) (haulierref04_word.f (k + 1) a0) := by
  intro a0 k
  obtain ⟨ih0, ih1, ih2, ih3⟩ := haulierref04_word.mono_l k
  unfold haulierref04_word.f
  repeat' first
      | (with_reducible exact ih0 _ _)
      | (with_reducible exact ih1 _ _)
      | (with_reducible exact ih2 _ _ _)
      | (with_reducible exact ih3 _ _ _ _)
      | (with_reducible exact LeO.refl _)
      | (with_reducible exact LeO.none _)
      | (with_reducible refine LeO.ite ?_ ?_)
      | (with_reducible refine LeO.bind ?_ (fun _ => ?_))
      | exact ih0 _ _
      | exact ih1 _ _
      | exact ih2 _ _ _
      | exact ih3 _ _ _ _
      | exact LeO.none _
      | refine LeO.ite ?_ ?_
      | refine LeO.bind ?_ (fun _ => ?_)
set_option maxHeartbeats 8000000 in
set_option maxRecDepth 100000 in
theorem haulierref04_word.calls (k : Nat) (P0_ : Nat → Prop) (A0 : Option Addr) (c0 : Nat) (l0 : List Int) (r1 : Int) (r2 : Bool) (w : World) (hs0 : Kd.V (Kd.int .u8) 5 w w.heap.size (fun k_ => P0_ k_) (.slice A0 l0.length c0) l0) (h : haulierref04_word.f k l0 = some (r1, r2)) :
    Calls Try.prog 21 #[.slice A0 l0.length c0] w fun e w' => e = .returned (.tuple #[.int .i64 r1, .bool r2]) ∧ Below w.heap.size w w' := by
  have HO0 := Aside0.mk (show Kd.V (Kd.int .u8) 5 w w.heap.size (fun k_ => (P0_ k_ ∨ w.heap.size ≤ k_)) (.slice A0 l0.length c0) l0 from Kd.V_mono hs0 (fun k_ hk => .inl hk))
  have HB := Aside0.mk (Below.refl w.heap.size w)
  have H : (if (l0.length : Int) > 0 then (if 0 < (l0.length : Int) then (haulierref04_word.j0 k l0 ((rd l0 0) == 45)) else (none)) else (haulierref04_word.j0 k l0 false)) = some (r1, r2) := h
  clear h
  have HC2 := Aside0.mk H
  clear H
  go_enter Try.func21, Try.ntmps21
  go_upto_region 1 with (fail)
  go_cut [4] (fun v4 wc => ∃ (kq : Nat) (x4_1 : Bool), v4 = .bool x4_1 ∧ Aside0 (haulierref04_word.j0 kq l0 x4_1 = some (r1, r2)) ∧ Aside0 (kq ≤ k) ∧ Aside0 (Kd.V (Kd.int .u8) 5 wc w.heap.size (fun k_ => (P0_ k_ ∨ w.heap.size ≤ k_)) (.slice A0 l0.length c0) l0) ∧ Aside0 (Below w.heap.size w wc))
  case first =>
    have H := HC2.out
    clear HC2
    by_cases c3 : (l0.length : Int) > 0
    · rw [if_pos c3] at H
      have c3b0 : decide (0 < (l0.length : Int)) = true := decide_eq_true c3
      have c3b1 : decide (0 < l0.length) = true := decide_eq_true (by omega)
      clear c3
      (first | rw [c3b0] | (simp only [i64_w, i32_w]; rw [c3b0]) | skip)
      by_cases c4 : 0 < (l0.length : Int)
      · rw [if_pos c4] at H
        have c4b0 : decide (0 < (l0.length : Int)) = true := decide_eq_true c4
        have c4b1 : decide (0 < l0.length) = true := decide_eq_true (by omega)
        clear c4
        have H' := Aside0.mk H
        clear H
        have p115 : 0 ≤ (0 : Int) := (by omega)
        have q115 : 0 < (l0.length : Int) := of_decide_eq_true (by first | (with_reducible assumption) | assumption)
        obtain ⟨ad115, e115, hx115_0⟩ := Kd.at_int (Kd.V_reads' HO0.out).2.2 0 p115 q115
        cases e115
        have qi115 : (0 < l0.length) = True := eq_true (by omega)
        (try rw [show ((0 : Int)).toNat = 0 from rfl] at hx115_0)
        (try rw [Addr.add_zero'] at hx115_0)
        replace p115 := eq_true p115
        replace q115 := eq_true q115
        go_wp2
        go_meet
        case rel => exact ⟨_, (((rd l0 0) == 45)), (by first | rfl | (simp; done) | (simp [*]; done)), H', ⟨by first | omega | exact Nat.le_refl _⟩, ⟨by (with_reducible repeat (first | apply Kd.V_alloc | apply Kd.V_drewN | apply Kd.V_drew)); exact HO0.out⟩, ⟨by repeat (first | (with_reducible first | exact HB.out | apply below_alloc | apply pw_below_drewN | apply below_drew1) | exact HB.out)⟩⟩
      · rw [if_neg c4] at H
        exact absurd H (by simp)
    · rw [if_neg c3] at H
      have c3b0 : decide (0 < (l0.length : Int)) = false := decide_eq_false c3
      have c3b1 : decide (0 < l0.length) = false := decide_eq_false (by omega)
      clear c3
      (first | rw [c3b0] | (simp only [i64_w, i32_w]; rw [c3b0]) | skip)
      have H' := Aside0.mk H
      clear H
      go_wp2
      go_meet
      case rel => exact ⟨_, (false), (by first | rfl | (simp; done) | (simp [*]; done)), H', ⟨by first | omega | exact Nat.le_refl _⟩, ⟨by (with_reducible repeat (first | apply Kd.V_alloc | apply Kd.V_drewN | apply Kd.V_drew)); exact HO0.out⟩, ⟨by repeat (first | (with_reducible first | exact HB.out | apply below_alloc | apply pw_below_drewN | apply below_drew1) | exact HB.out)⟩⟩
  case rest =>
    clear HC2
    try clear p1
    try clear q1
    try clear hx1
    try clear qi1
    try clear c2
    try clear p2
    try clear c3
    try clear c3b0
    try clear c3b1
    try clear c4
    try clear c4b0
    try clear c4b1
    try clear hx115_0
    try clear p115
    try clear q115
    obtain ⟨kq, x4_1, rfl, HA, HJ1, HO_0, HB⟩ := hcut
    cases kq with
    | zero => exact absurd HA.out (by simp [haulierref04_word.j0])
    | succ kj1 =>
      have H := HA.out
      clear HA
      simp only [haulierref04_word.j0] at H
      have HC5 := Aside0.mk H
      clear H
      go_upto_if 16 with (fail)
      go_cut [0] (fun v0 wc => ∃ (kq : Nat) (x0_4 : List Int), Aside0 (haulierref04_word.j1 kq x0_4 x4_1 = some (r1, r2)) ∧ Aside0 (kq ≤ kj1) ∧ Aside0 (Kd.V (Kd.int .u8) 5 wc w.heap.size (fun k_ => (P0_ k_ ∨ w.heap.size ≤ k_)) v0 x0_4) ∧ Aside0 (Below w.heap.size w wc))
      case first =>
        have H := HC5.out
        clear HC5
        by_cases c6 : x4_1 = true
        · subst c6
          have H1 : (if 1 ≤ (l0.length : Int) then (haulierref04_word.j1 kj1 (l0.drop 1) true) else (none)) = some (r1, r2) := by rw [if_pos rfl] at H; exact H
          clear H
          have H := H1
          clear H1
          by_cases c7 : 1 ≤ (l0.length : Int)
          · rw [if_pos c7] at H
            have c7b0 := eq_true c7
            have c7b1 : decide (1 ≤ (l0.length : Int)) = true := decide_eq_true c7
            clear c7
            obtain ⟨y116, hy116⟩ : ∃ y_ : List Int, y_ = (l0.drop 1) := ⟨_, rfl⟩
            replace H : (haulierref04_word.j1 kj1 y116 true) = some (r1, r2) := by first | (rw [hy116]; with_reducible exact H) | (have H2_ := (Option.bind_some _ _).symm.trans H; rw [hy116]; with_reducible exact H2_) | (have H2_ := (Option.bind_some _ _).symm.trans H; with_reducible exact H2_) | with_reducible exact H | (rw [hy116]; exact H) | exact H
            have Ny116 := Aside0.mk hy116
            clear hy116
            have H' := Aside0.mk H
            clear H
            have q8 : (1 : Int) ≤ ((l0.length : Int) : Int) := of_decide_eq_true (by first | (with_reducible assumption) | assumption)
            obtain ⟨i08, hi08, _, hsz8, _⟩ := info_parts info5
            have hroom8 : l0.length ≤ c0 := (Kd.V_reads' HO_0.out).2.1
            have hC8 : Kd.F (Kd.int .u8) _ _ A0 l0.length l0 := (Kd.V_at (base := w.heap.size) HO_0.out).2.2
            have hcut8 := cut_from (P := Try.prog) 22 5 .i64 Try.underlying22 hi08 1 hsz8 A0 l0.length c0 1 (by omega) q8
            have hr8 := Kd.F_cut (m := (1 : Int).toNat) (c := c0) hC8 (by omega) hroom8
            obtain ⟨A8, hA8⟩ : ∃ A1, A1 = (if c0 = (1 : Int).toNat then A0 else (A0 : Option Addr).map (·.add ((1 : Int).toNat * 1))) := ⟨_, rfl⟩
            obtain ⟨c8, hc8⟩ : ∃ c1, c1 = c0 - (1 : Int).toNat := ⟨_, rfl⟩
            have hy8 : y116.length = l0.length - (1 : Int).toNat := (by rw [Ny116.out, List.length_drop] <;> omega)
            rw [show (l0).drop (1 : Int).toNat = y116 from Ny116.out.symm] at hr8
            replace hr8 : Kd.F (Kd.int .u8) _ _ A8 y116.length y116 := (by rw [hA8]; exact hr8)
            rw [← hy8, ← hA8, ← hc8] at hcut8
            have HO120 := Aside0.mk (show Kd.V (Kd.int .u8) 5 _ w.heap.size _ (.slice A8 y116.length c8) y116 from Kd.V_mk (by rw [hy8, hc8]; exact Nat.sub_le_sub_right hroom8 _) hr8)
            have HC120 := Aside0.mk (show y116.length ≤ c8 from by rw [hy8, hc8]; exact Nat.sub_le_sub_right hroom8 _)
            clear hr8 hC8 hroom8 hi08 hsz8 hc8
            have KY8 := Aside0.mk hy8
            have KA8 := Aside0.mk hA8
            clear hy8 hA8
            replace q8 := eq_true q8
            go_wp2
            go_meet
            case rel => exact ⟨_, (y116), H', ⟨by have := HJ1.out; first | omega | exact Nat.le_refl _⟩, ⟨by (with_reducible repeat (first | apply Kd.V_alloc | apply Kd.V_drewN | apply Kd.V_drew)); exact HO120.out⟩, ⟨by repeat (first | (with_reducible first | exact HB.out | apply below_alloc | apply pw_below_drewN | apply below_drew1) | exact HB.out)⟩⟩
          · rw [if_neg c7] at H
            exact absurd H (by simp)
        · replace c6 := Bool.eq_false_iff.mpr c6
          subst c6
          have H1 : (haulierref04_word.j1 kj1 l0 false) = some (r1, r2) := by rw [if_neg (show ¬ (false = true) by decide)] at H; exact H
          clear H
          have H := H1
          clear H1
          have H' := Aside0.mk H
          clear H
          go_wp2
          go_meet
          case rel => exact ⟨_, (l0), H', ⟨by have := HJ1.out; first | omega | exact Nat.le_refl _⟩, ⟨by (with_reducible repeat (first | apply Kd.V_alloc | apply Kd.V_drewN | apply Kd.V_drew)); exact HO_0.out⟩, ⟨by repeat (first | (with_reducible first | exact HB.out | apply below_alloc | apply pw_below_drewN | apply below_drew1) | exact HB.out)⟩⟩
      case rest =>
        clear HC5
        try clear c1
        try clear p1
        try clear q1
        try clear hx1
        try clear qi1
        try clear c2
        try clear p2
        try clear c3
        try clear c3b0
        try clear c3b1
        try clear c4
        try clear c4b0
        try clear c4b1
        try clear c6
        try clear c7
        try clear c7b0
        try clear c7b1
        try clear c8
        try clear q8
        try clear hx115_0
        try clear p1
        try clear p115
        try clear p2
        try clear q1
        try clear q115
        try clear q8
        obtain ⟨kq, x0_4, HA, HJ4, HO_0, HB⟩ := hcut
        cases kq with
        | zero => exact absurd HA.out (by simp [haulierref04_word.j1])
        | succ kj4 =>
          have H := HA.out
          clear HA
          simp only [haulierref04_word.j1] at H
          have HC9 := Aside0.mk H
          clear H
          go_upto_region 4 with (fail)
          go_cut [26] (fun v26 wc => ∃ (kq : Nat) (x26_8 : Bool), v26 = .bool x26_8 ∧ Aside0 (haulierref04_word.j2 kq x0_4 x4_1 x26_8 = some (r1, r2)) ∧ Aside0 (kq ≤ kj4) ∧ Aside0 (Kd.V (Kd.int .u8) 5 wc w.heap.size (fun k_ => (P0_ k_ ∨ w.heap.size ≤ k_)) u0 x0_4) ∧ Aside0 (Below w.heap.size w wc))
          case first =>
            have H := HC9.out
            clear HC9
            by_cases c10 : (x0_4.length : Int) < 1
            · rw [if_pos c10] at H
              have c10b0 : decide ((x0_4.length : Int) < 1) = true := decide_eq_true c10
              have c10b1 : decide (x0_4.length < 1) = true := decide_eq_true (by omega)
              clear c10
              (first | rw [c10b0] | (simp only [i64_w, i32_w]; rw [c10b0]) | skip)
              have H' := Aside0.mk H
              clear H
              obtain ⟨Ao11, co11, eo11⟩ := Kd.V_slice HO_0.out
              subst eo11
              go_wp2
              go_meet
              case rel => exact ⟨_, (true), (by first | rfl | (simp; done) | (simp [*]; done)), H', ⟨by have := HJ1.out; have := HJ4.out; first | omega | exact Nat.le_refl _⟩, ⟨by (with_reducible repeat (first | apply Kd.V_alloc | apply Kd.V_drewN | apply Kd.V_drew)); exact HO_0.out⟩, ⟨by repeat (first | (with_reducible first | exact HB.out | apply below_alloc | apply pw_below_drewN | apply below_drew1) | exact HB.out)⟩⟩
            · rw [if_neg c10] at H
              have c10b0 : decide ((x0_4.length : Int) < 1) = false := decide_eq_false c10
              have c10b1 : decide (x0_4.length < 1) = false := decide_eq_false (by omega)
              clear c10
              (first | rw [c10b0] | (simp only [i64_w, i32_w]; rw [c10b0]) | skip)
              have H' := Aside0.mk H
              clear H
              obtain ⟨Ao12, co12, eo12⟩ := Kd.V_slice HO_0.out
              subst eo12
              go_wp2
              go_meet
              case rel => exact ⟨_, (decide ((x0_4.length : Int) > 12)), (by first | rfl | (simp; done) | (simp [*]; done)), H', ⟨by have := HJ1.out; have := HJ4.out; first | omega | exact Nat.le_refl _⟩, ⟨by (with_reducible repeat (first | apply Kd.V_alloc | apply Kd.V_drewN | apply Kd.V_drew)); exact HO_0.out⟩, ⟨by repeat (first | (with_reducible first | exact HB.out | apply below_alloc | apply pw_below_drewN | apply below_drew1) | exact HB.out)⟩⟩
          case rest =>
            clear HC9
            try clear c1
            try clear p1
            try clear q1
            try clear hx1
            try clear qi1
            try clear c2
            try clear p2
            try clear c3
            try clear c3b0
            try clear c3b1
            try clear c4
            try clear c4b0
            try clear c4b1
            try clear c6
            try clear c7
            try clear c7b0
            try clear c7b1
            try clear c8
            try clear q8
            try clear c10
            try clear c10b0
            try clear c10b1
            try clear p11
            try clear q11
            try clear hx11
            try clear qi11
            try clear hx115_0
            try clear p1
            try clear p115
            try clear p2
            try clear q1
            try clear q115
            try clear q8
            obtain ⟨kq, x26_8, rfl, HA, HJ8, HO_0, HB⟩ := hcut
            cases kq with
            | zero => exact absurd HA.out (by simp [haulierref04_word.j2])
            | succ kj8 =>
              have H := HA.out
              clear HA
              simp only [haulierref04_word.j2] at H
              by_cases c13 : x26_8 = true
              · subst c13
                have H1 : (some (0, false)) = some (r1, r2) := by rw [if_pos rfl] at H; exact H
                clear H
                have H := H1
                clear H1
                simp only [Option.some.injEq, Prod.mk.injEq] at H
                obtain ⟨rfl, rfl⟩ := H
                go_wp2
                go_ret2
                exact ⟨by first | rfl | (simp [errW_none, errW_some] <;> rfl) | (simp [*, errW_none, errW_some] <;> rfl), by repeat (first | (with_reducible first | exact HB.out | apply below_alloc | apply pw_below_drewN | apply below_drew1) | exact HB.out)⟩
              · replace c13 := Bool.eq_false_iff.mpr c13
                subst c13
                have H1 : (haulierref04_word.l0 kj8 x0_4 x4_1 0 0) = some (r1, r2) := by rw [if_neg (show ¬ (false = true) by decide)] at H; exact H
                clear H
                have H := H1
                clear H1
                have H' := Aside0.mk H
                clear H
                go_wp2
                go_loopg [5, 6] kj8 (fun kq v5 v6 w' => ∃ (x5_4 : Int) (x6_4 : Int), v5 = .int .i64 x5_4 ∧ v6 = .int .i64 x6_4 ∧ Aside0 (haulierref04_word.l0 kq x0_4 x4_1 x5_4 x6_4 = some (r1, r2)) ∧ Aside0 (kq ≤ kj8) ∧ Aside0 (Kd.V (Kd.int .u8) 5 w' w.heap.size (fun k_ => (P0_ k_ ∨ w.heap.size ≤ k_)) u0 x0_4) ∧ Aside0 (Below w.heap.size w w'))
                case atStart => exact ⟨(0), (0), (by first | rfl | (simp; done) | (simp [*]; done)), (by first | rfl | (simp; done) | (simp [*]; done)), H', ⟨Nat.le_refl _⟩, ⟨by (with_reducible repeat (first | apply Kd.V_alloc | apply Kd.V_drewN | apply Kd.V_drew)); exact HO_0.out⟩, ⟨by repeat (first | (with_reducible first | exact HB.out | apply below_alloc | apply pw_below_drewN | apply below_drew1) | exact HB.out)⟩⟩
                case round =>
                  clear H'
                  try clear c1
                  try clear p1
                  try clear q1
                  try clear hx1
                  try clear qi1
                  try clear c2
                  try clear p2
                  try clear c3
                  try clear c3b0
                  try clear c3b1
                  try clear c4
                  try clear c4b0
                  try clear c4b1
                  try clear c6
                  try clear c7
                  try clear c7b0
                  try clear c7b1
                  try clear c8
                  try clear q8
                  try clear c10
                  try clear c10b0
                  try clear c10b1
                  try clear p11
                  try clear q11
                  try clear hx11
                  try clear qi11
                  try clear c13
                  try clear hx115_0
                  try clear p1
                  try clear p11
                  try clear p115
                  try clear p2
                  try clear q1
                  try clear q11
                  try clear q115
                  try clear q8
                  obtain ⟨x5_4, x6_4, rfl, rfl, HA, HK4, HO_0, HB⟩ := hrel
                  cases gk with
                  | zero => exact absurd HA.out (by simp [haulierref04_word.l0])
                  | succ k4 =>
                    have H := HA.out
                    clear HA
                    simp only [haulierref04_word.l0] at H
                    by_cases c14 : x6_4 < (x0_4.length : Int)
                    · rw [if_pos c14] at H
                      have c14b0 : decide (x6_4 < (x0_4.length : Int)) = true := decide_eq_true c14
                      clear c14
                      by_cases c15 : 0 ≤ x6_4
                      · rw [if_pos c15] at H
                        have c15b0 : decide (0 ≤ x6_4) = true := decide_eq_true c15
                        clear c15
                        by_cases c16 : (rd x0_4 x6_4) < 48
                        · rw [if_pos c16] at H
                          have c16b0 : decide ((rd x0_4 x6_4) < 48) = true := decide_eq_true c16
                          clear c16
                          simp only [Option.some.injEq, Prod.mk.injEq] at H
                          obtain ⟨rfl, rfl⟩ := H
                          obtain ⟨Ao17, co17, eo17⟩ := Kd.V_slice HO_0.out
                          subst eo17
                          have p121 : 0 ≤ (x6_4 : Int) := of_decide_eq_true (by first | (with_reducible assumption) | assumption)
                          have q121 : x6_4 < (x0_4.length : Int) := of_decide_eq_true (by first | (with_reducible assumption) | assumption)
                          obtain ⟨ad121, e121, hx121_0⟩ := Kd.at_int (Kd.V_reads' HO_0.out).2.2 x6_4 p121 q121
                          cases e121
                          replace p121 := eq_true p121
                          replace q121 := eq_true q121
                          go_wp2
                          go_ret2
                          exact ⟨by first | rfl | (simp [errW_none, errW_some] <;> rfl) | (simp [*, errW_none, errW_some] <;> rfl), by repeat (first | (with_reducible first | exact HB.out | apply below_alloc | apply pw_below_drewN | apply below_drew1) | exact HB.out)⟩
                        · rw [if_neg c16] at H
                          have c16b0 : decide ((rd x0_4 x6_4) < 48) = false := decide_eq_false c16
                          clear c16
                          by_cases c18 : (rd x0_4 x6_4) > 57
                          · rw [if_pos c18] at H
                            have c18b0 : decide (57 < (rd x0_4 x6_4)) = true := decide_eq_true c18
                            clear c18
                            simp only [Option.some.injEq, Prod.mk.injEq] at H
                            obtain ⟨rfl, rfl⟩ := H
                            obtain ⟨Ao19, co19, eo19⟩ := Kd.V_slice HO_0.out
                            subst eo19
                            have p121 : 0 ≤ (x6_4 : Int) := of_decide_eq_true (by first | (with_reducible assumption) | assumption)
                            have q121 : x6_4 < (x0_4.length : Int) := of_decide_eq_true (by first | (with_reducible assumption) | assumption)
                            obtain ⟨ad121, e121, hx121_0⟩ := Kd.at_int (Kd.V_reads' HO_0.out).2.2 x6_4 p121 q121
                            cases e121
                            replace p121 := eq_true p121
                            replace q121 := eq_true q121
                            have p122 : 0 ≤ (x6_4 : Int) := of_decide_eq_true (by first | (with_reducible assumption) | assumption)
                            have q122 : x6_4 < (x0_4.length : Int) := of_decide_eq_true (by first | (with_reducible assumption) | assumption)
                            obtain ⟨ad122, e122, hx122_0⟩ := Kd.at_int (Kd.V_reads' HO_0.out).2.2 x6_4 p122 q122
                            obtain rfl : ad121 = ad122 := (by injection e122)
                            replace p122 := eq_true p122
                            replace q122 := eq_true q122
                            go_wp2
                            go_ret2
                            exact ⟨by first | rfl | (simp [errW_none, errW_some] <;> rfl) | (simp [*, errW_none, errW_some] <;> rfl), by repeat (first | (with_reducible first | exact HB.out | apply below_alloc | apply pw_below_drewN | apply below_drew1) | exact HB.out)⟩
                          · rw [if_neg c18] at H
                            have c18b0 : decide (57 < (rd x0_4 x6_4)) = false := decide_eq_false c18
                            clear c18
                            have H' := Aside0.mk H
                            clear H
                            obtain ⟨Ao20, co20, eo20⟩ := Kd.V_slice HO_0.out
                            subst eo20
                            have p121 : 0 ≤ (x6_4 : Int) := of_decide_eq_true (by first | (with_reducible assumption) | assumption)
                            have q121 : x6_4 < (x0_4.length : Int) := of_decide_eq_true (by first | (with_reducible assumption) | assumption)
                            obtain ⟨ad121, e121, hx121_0⟩ := Kd.at_int (Kd.V_reads' HO_0.out).2.2 x6_4 p121 q121
                            cases e121
                            replace p121 := eq_true p121
                            replace q121 := eq_true q121
                            have p122 : 0 ≤ (x6_4 : Int) := of_decide_eq_true (by first | (with_reducible assumption) | assumption)
                            have q122 : x6_4 < (x0_4.length : Int) := of_decide_eq_true (by first | (with_reducible assumption) | assumption)
                            obtain ⟨ad122, e122, hx122_0⟩ := Kd.at_int (Kd.V_reads' HO_0.out).2.2 x6_4 p122 q122
                            obtain rfl : ad121 = ad122 := (by injection e122)
                            replace p122 := eq_true p122
                            replace q122 := eq_true q122
                            have p123 : 0 ≤ (x6_4 : Int) := of_decide_eq_true (by first | (with_reducible assumption) | assumption)
                            have q123 : x6_4 < (x0_4.length : Int) := of_decide_eq_true (by first | (with_reducible assumption) | assumption)
                            obtain ⟨ad123, e123, hx123_0⟩ := Kd.at_int (Kd.V_reads' HO_0.out).2.2 x6_4 p123 q123
                            obtain rfl : ad121 = ad123 := (by injection e123)
                            replace p123 := eq_true p123
                            replace q123 := eq_true q123
                            go_wp2
                            go_roundg k4
                            case measure => have := HJ1.out; have := HJ4.out; have := HJ8.out; have := HK4.out; omega
                            case rel => exact ⟨(wrap64 ((wrap64 (10 * x5_4)) + (((rd x0_4 x6_4) - 48) % 256))), (wrap64 (x6_4 + 1)), (by first | rfl | (simp; done) | (simp [*]; done)), (by first | rfl | (simp; done) | (simp [*]; done)), H', ⟨by have := HJ1.out; have := HJ4.out; have := HJ8.out; have := HK4.out; omega⟩, ⟨by (with_reducible repeat (first | apply Kd.V_alloc | apply Kd.V_drewN | apply Kd.V_drew)); exact HO_0.out⟩, ⟨by repeat (first | (with_reducible first | exact HB.out | apply below_alloc | apply pw_below_drewN | apply below_drew1) | exact HB.out)⟩⟩
                      · rw [if_neg c15] at H
                        exact absurd H (by simp)
                    · rw [if_neg c14] at H
                      have c14b0 : decide (x6_4 < (x0_4.length : Int)) = false := decide_eq_false c14
                      clear c14
                      by_cases c21 : x4_1 = true
                      · subst c21
                        have H1 : (some (wrap64 (-x5_4), true)) = some (r1, r2) := by rw [if_pos rfl] at H; exact H
                        clear H
                        have H := H1
                        clear H1
                        simp only [Option.some.injEq, Prod.mk.injEq] at H
                        obtain ⟨rfl, rfl⟩ := H
                        obtain ⟨Ao22, co22, eo22⟩ := Kd.V_slice HO_0.out
                        subst eo22
                        go_wp2
                        go_ret2
                        exact ⟨by first | rfl | (simp [errW_none, errW_some] <;> rfl) | (simp [*, errW_none, errW_some] <;> rfl), by repeat (first | (with_reducible first | exact HB.out | apply below_alloc | apply pw_below_drewN | apply below_drew1) | exact HB.out)⟩
                      · replace c21 := Bool.eq_false_iff.mpr c21
                        subst c21
                        have H1 : (some (x5_4, true)) = some (r1, r2) := by rw [if_neg (show ¬ (false = true) by decide)] at H; exact H
                        clear H
                        have H := H1
                        clear H1
                        simp only [Option.some.injEq, Prod.mk.injEq] at H
                        obtain ⟨rfl, rfl⟩ := H
                        obtain ⟨Ao23, co23, eo23⟩ := Kd.V_slice HO_0.out
                        subst eo23
                        go_wp2
                        go_ret2
                        exact ⟨by first | rfl | (simp [errW_none, errW_some] <;> rfl) | (simp [*, errW_none, errW_some] <;> rfl), by repeat (first | (with_reducible first | exact HB.out | apply below_alloc | apply pw_below_drewN | apply below_drew1) | exact HB.out)⟩

end Go.Proofs.Ytdmlohoicgfdnaa.PA
