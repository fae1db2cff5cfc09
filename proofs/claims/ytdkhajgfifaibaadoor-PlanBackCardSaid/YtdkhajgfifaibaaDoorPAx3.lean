-- Printed for this claim by wip/tools/xprint.py over the kit's print; the contracts marked BY HAND are this session's own.
import Derived.Test.YtdkhajgfifaibaaDoorPAx0
import Derived.Test.YtdkhajgfifaibaaDoorPAx1
import Derived.Test.YtdkhajgfifaibaaDoorPAx2
namespace Go.Proofs.YtdkhajgfifaibaaDoor.PA
open Go.RowKit Go.Proofs.YtdkhajgfifaibaaDoorW.PrintWords Go.Proofs.YtdkhajgfifaibaaDoorW.PrintLast Go.Proofs.YtdkhajgfifaibaaDoorW.PrintMore
attribute [local go_sem] max2_int min2_int max_two min_two max_three min_three max_four min_four   -- for this text's walks alone
set_option linter.unusedVariables false
set_option linter.unusedSimpArgs false

/-! ### slices_stableCmpFunc_int: function 39, BY HAND -/

section
open Go.Shelf Go.Lib Go.Sort
set_option maxHeartbeats 16000000 in
set_option maxRecDepth 1000000 in
theorem stable_s {α : Type} [Inhabited α] (enc : α → Value) (cf : α → α → Int) (ls : α → α → Bool) (ix : α → Nat) (g : Nat) (cb : Array Value) (blk off cap : Nat) (d0 : Array α) (w0 : World)
    (eg : ∀ args w, (callFunc g args).run Tryd.prog w = .ok (.enter g args) w) (hcmp : CmpLays1 Tryd.prog g cb enc cf blk off d0.size w0) (R : Row1 enc w0 blk off d0) (hS : SWO ls) (hl : ∀ x y, ix x < ix y → ltOf cf y x = ls y x) (hsz : d0.size < 4611686018427387904) (w : World) (S : SW enc w0 blk off d0 w) (h40 : d0.size ≤ 40) (hix : ∀ k j, k < j → j < d0.size → ix d0[k]! < ix d0[j]!) :
    Calls Tryd.prog 39 #[.slice (some ⟨blk, off, none⟩) d0.size cap, .int .i64 d0.size, .func (.func g) #[] cb] w fun e w' => e = .returned (.tuple #[]) ∧ ∃ d', PermIn 0 d0.size d0 d' ∧ SortedIn ls 0 d0.size d' ∧ SW enc w0 blk off d' w' := by
  have S0 : Aside (SW enc w0 blk off d0 w) := S
  clear S
  have HI := hidS (fun a b d w hs S hab hb => insertion_s enc cf g cb blk off cap a b d0 d w0 w eg hcmp R hs S hab hb hsz)
  have HM_ := symMerge_s enc cf ls ix g cb blk off cap d0 w0 eg hcmp R hS hl hsz
  unfold SymAt at HM_
  have HM := hidS HM_
  have HIX := hidS hix
  have HL := hidS hl
  have HS := hidS hS
  have H40 := hidS h40
  have z0 : ((0 : Nat) : Int) = 0 := rfl
  have z20 : ((20 : Nat) : Int) = 20 := rfl
  have z40 : ((40 : Nat) : Int) = 40 := rfl
  have Z0 := hidS z0
  have Z20 := hidS z20
  have Z40 := hidS z40
  clear hcmp hix hl hS HM_ h40 z0 z20 z40
  by_cases c1 : d0.size < 20
  · have c1' : ¬ (20 : Int) ≤ (d0.size : Int) := by omega
    have c2' : ¬ (20 : Int) < (d0.size : Int) := by omega
    have i_ := HI.out 0 d0.size d0 w rfl S0.out (Nat.zero_le _) (Nat.le_refl _)
    rw [Z0.out] at i_
    have H1 := hidS i_
    have HR := hidS (insertion_stable HS.out HL.out d0 0 d0.size (Nat.zero_le _) (Nat.le_refl _) (fun k j _ k2 k3 => HIX.out k j k2 k3))
    clear i_
    go_enter Tryd.func39, Tryd.ntmps39
    go_wp2
    refine wp_loop_rounds 1 ?_
    rw [rounds_succ]
    go_wp2_with (go_at_call 50; (with_reducible refine H1.out.mono ?_; rintro e_ w1 ⟨rfl, h_⟩; have S1 := asideS h_; clear h_))
    refine wp_loop_rounds 1 ?_
    rw [rounds_succ]
    go_wp2
    go_end0
    exact ⟨rfl, _, HR.out.1, HR.out.2, S1.out⟩
  · have T := hidS (two_runs HS.out HL.out d0 20 d0.size (by omega) (Nat.le_refl _) HIX.out)
    have i_ := HI.out 0 20 d0 w rfl S0.out (Nat.zero_le _) (by omega)
    rw [Z0.out, Z20.out] at i_
    have H1 := hidS i_
    clear i_
    by_cases c2 : d0.size = 20
    · have e20 : (d0.size : Int) = 20 := by omega
      have C2 := hidS c2
      clear c2 c1
      go_enter Tryd.func39, Tryd.ntmps39
      go_wp2
      refine wp_loop_rounds 2 ?_
      rw [rounds_succ]
      go_wp2_with (go_at_call 50; (with_reducible refine H1.out.mono ?_; rintro e_ w1 ⟨rfl, h_⟩; have S1 := asideS h_; clear h_))
      have i_ := HI.out 20 20 _ _ T.out.z1.symm S1.out (Nat.le_refl _) (by have e1 := C2.out; have e2 := T.out.z1; omega)
      rw [T.out.z1, Z20.out, ins_none] at i_
      have H2 := hidS i_
      clear i_
      rw [rounds_succ]
      go_wp2_with (go_at_call 50; (with_reducible refine H2.out.mono ?_; rintro e_ w2 ⟨rfl, h_⟩; have S2 := asideS h_; clear h_))
      refine wp_loop_rounds 1 ?_
      rw [rounds_succ]
      go_wp2
      go_end0
      refine ⟨rfl, _, ?_, ?_, S2.out⟩
      · have h_ := T.out.p; rw [C2.out] at h_ ⊢; rwa [ins_none] at h_
      · have h_ := T.out.s1; rw [C2.out] at h_ ⊢; rwa [ins_none] at h_
    · by_cases c3 : d0.size < 40
      · have q1 : (20 : Int) ≤ (d0.size : Int) := by omega
        have q2 : ¬ (40 : Int) ≤ (d0.size : Int) := by omega
        have q3 : (20 : Int) < (d0.size : Int) := by omega
        have q4 : ¬ (40 : Int) < (d0.size : Int) := by omega
        go_enter Tryd.func39, Tryd.ntmps39
        go_wp2
        refine wp_loop_rounds 2 ?_
        rw [rounds_succ]
        go_wp2_with (go_at_call 50; (with_reducible refine H1.out.mono ?_; rintro e_ w1 ⟨rfl, h_⟩; have S1 := asideS h_; clear h_))
        have i_ := HI.out 20 d0.size _ _ T.out.z1.symm S1.out (by omega) (Nat.le_of_eq T.out.z1.symm)
        rw [T.out.z1, Z20.out] at i_
        have H2 := hidS i_
        clear i_
        rw [rounds_succ]
        go_wp2_with (go_at_call 50; (with_reducible refine H2.out.mono ?_; rintro e_ w2 ⟨rfl, h_⟩; have S2 := asideS h_; clear h_))
        have i_ := HM.out d0.size 0 20 d0.size _ _ (by omega) T.out.z2.symm S2.out (by omega) (by omega) (Nat.le_of_eq T.out.z2.symm) T.out.s1 T.out.s2 T.out.x
        rw [T.out.z2, Z0.out, Z20.out] at i_
        have H3 := hidS i_
        clear i_
        refine wp_loop_rounds 2 ?_
        rw [rounds_succ]
        go_wp2
        refine wp_loop_rounds 1 ?_
        rw [rounds_succ]
        go_wp2_with (go_at_call 51; with_reducible refine H3.out.mono ?_; rintro e_ w3 ⟨rfl, d3, h_1, h_2, h_3⟩; have P3 := hidS h_1; have T3 := hidS h_2; have S3 := asideS h_3; clear h_1 h_2 h_3)
        rw [rounds_succ]
        go_wp2
        go_end0
        exact ⟨rfl, d3, two_end T.out P3.out, T3.out, S3.out⟩
      · have e40 : (d0.size : Int) = 40 := by have := H40.out; omega
        have C4 := hidS (show d0.size = 40 by have := H40.out; omega)
        clear c1 c2 c3
        go_enter Tryd.func39, Tryd.ntmps39
        go_wp2
        refine wp_loop_rounds 3 ?_
        rw [rounds_succ]
        go_wp2_with (go_at_call 50; (with_reducible refine H1.out.mono ?_; rintro e_ w1 ⟨rfl, h_⟩; have S1 := asideS h_; clear h_))
        have i_ := HI.out 20 40 _ _ T.out.z1.symm S1.out (by decide) (by have e1 := C4.out; have e2 := T.out.z1; omega)
        rw [T.out.z1, Z20.out, Z40.out] at i_
        have H2 := hidS i_
        clear i_
        rw [rounds_succ]
        go_wp2_with (go_at_call 50; (with_reducible refine H2.out.mono ?_; rintro e_ w2 ⟨rfl, h_⟩; have S2 := asideS h_; clear h_))
        have T2 := T.out
        rw [C4.out] at T2
        have i_ := HI.out 40 40 _ _ T2.z2.symm S2.out (Nat.le_refl _) (by have e1 := C4.out; have e2 := T2.z2; omega)
        rw [T2.z2, Z40.out, ins_none] at i_
        have H3 := hidS i_
        clear i_
        rw [rounds_succ]
        go_wp2_with (go_at_call 50; (with_reducible refine H3.out.mono ?_; rintro e_ w3 ⟨rfl, h_⟩; have S3 := asideS h_; clear h_))
        have i_ := HM.out d0.size 0 20 40 _ _ (by have e1 := C4.out; omega) T2.z2.symm S3.out (by decide) (by decide) (by have e1 := C4.out; have e2 := T2.z2; omega) T2.s1 T2.s2 T2.x
        rw [T2.z2, Z0.out, Z20.out, Z40.out] at i_
        have H4 := hidS i_
        have TT := hidS T2
        clear i_ T2
        refine wp_loop_rounds 2 ?_
        rw [rounds_succ]
        go_wp2
        refine wp_loop_rounds 2 ?_
        rw [rounds_succ]
        go_wp2_with (go_at_call 51; with_reducible refine H4.out.mono ?_; rintro e_ w4 ⟨rfl, d3, h_1, h_2, h_3⟩; have P3 := hidS h_1; have T3 := hidS h_2; have S4 := asideS h_3; clear h_1 h_2 h_3)
        rw [rounds_succ]
        go_wp2
        rw [rounds_succ]
        go_wp2
        go_end0
        refine ⟨rfl, d3, ?_, ?_, S4.out⟩
        · rw [C4.out]; exact two_end TT.out P3.out
        · rw [C4.out]; exact T3.out
set_option maxHeartbeats 16000000 in
theorem sort_s {α : Type} [Inhabited α] (enc : α → Value) (cf : α → α → Int) (ls : α → α → Bool) (ix : α → Nat) (g : Nat) (cb : Array Value) (blk off cap : Nat) (d0 : Array α) (w0 : World)
    (eg : ∀ args w, (callFunc g args).run Tryd.prog w = .ok (.enter g args) w) (hcmp : CmpLays1 Tryd.prog g cb enc cf blk off d0.size w0) (R : Row1 enc w0 blk off d0) (hS : SWO ls) (hl : ∀ x y, ix x < ix y → ltOf cf y x = ls y x) (hsz : d0.size < 4611686018427387904) (w : World) (S : SW enc w0 blk off d0 w) (h40 : d0.size ≤ 40) (hix : ∀ k j, k < j → j < d0.size → ix d0[k]! < ix d0[j]!) :
    Calls Tryd.prog 20 #[.slice (some ⟨blk, off, none⟩) d0.size cap, .func (.func g) #[] cb] w fun e w' => e = .returned (.tuple #[]) ∧ ∃ d', PermIn 0 d0.size d0 d' ∧ SortedIn ls 0 d0.size d' ∧ SW enc w0 blk off d' w' := by
  have H := hidS (stable_s enc cf ls ix g cb blk off cap d0 w0 eg hcmp R hS hl hsz w S h40 hix)
  clear S h40 hix
  go_enter Tryd.func20, Tryd.ntmps20
  go_wp2_with (go_at_call 39; with_reducible refine H.out.mono ?_; rintro e_ w1 ⟨rfl, h_⟩; have H1 := hidS h_; clear h_)
  go_end0
  exact ⟨rfl, H1.out⟩
set_option maxHeartbeats 16000000 in
set_option maxRecDepth 1000000 in
theorem sort_none (A : Option Addr) (cap : Nat) (g : Nat) (cb : Array Value) (w : World) :
    Calls Tryd.prog 20 #[.slice A 0 cap, .func (.func g) #[] cb] w fun e w' => e = .returned (.tuple #[]) ∧ w' = w := by
  go_enter Tryd.func20, Tryd.ntmps20
  have h0 : Calls Tryd.prog 50 #[.slice A 0 cap, .int .i64 0, .int .i64 0, .func (.func g) #[] cb] w fun e w' => e = .returned (.tuple #[]) ∧ w' = w := by
    go_enter Tryd.func50, Tryd.ntmps50
    go_wp2
    refine wp_loop_rounds 1 ?_
    rw [rounds_succ]
    go_wp2
    go_end0
    exact ⟨rfl, rfl⟩
  have h1 : Calls Tryd.prog 39 #[.slice A 0 cap, .int .i64 0, .func (.func g) #[] cb] w fun e w' => e = .returned (.tuple #[]) ∧ w' = w := by
    go_enter Tryd.func39, Tryd.ntmps39
    go_wp2
    refine wp_loop_rounds 1 ?_
    rw [rounds_succ]
    go_wp2_with (go_at_call 50; with_reducible refine h0.mono ?_; rintro e_ w1 ⟨rfl, rfl⟩)
    refine wp_loop_rounds 1 ?_
    rw [rounds_succ]
    go_wp2
    go_end0
    exact ⟨rfl, rfl⟩
  go_wp2_with (go_at_call 39; with_reducible refine h1.mono ?_; rintro e_ w1 ⟨rfl, rfl⟩)
  go_end0
  exact ⟨rfl, rfl⟩
end

/-! ### slices_SortStableFunc_int_int: function 20, BY HAND -/

section
open Go.Shelf Go.Lib Go.Sort
set_option maxRecDepth 100000 in
theorem field0 (v : Value) (w : World) : Sem.run Tryd.prog (Instr.field 24 (.agg #[v]) 0) w = .ok v w := by rfl
theorem cell0 {w : World} {g t : Nat} {v : Value} (h : w.heap[g]? = some (.cells #[v] t (0, 0))) : w.cell? ⟨g, 0, none⟩ = some v := (blk_cell h 0).trans rfl
def cmpI (X Y : Int) : Int := if X < Y then -1 else if Y < X then 1 else 0
set_option maxHeartbeats 4000000 in
theorem cmp_r (X Y : Int) (W : World) : Calls Tryd.prog 22 #[.int .i64 X, .int .i64 Y] W fun e w' => e = .returned (.int .i64 (cmpI X Y)) ∧ ∃ q os', w' = grow (W.drewN q) os' := by
  unfold cmpI
  by_cases h1 : X < Y
  · rw [if_pos h1]
    go_enter Tryd.func22, Tryd.ntmps22
    go_wp2
    go_ret
    exact ⟨rfl, 0, #[], by simp; rfl⟩
  · rw [if_neg h1]
    by_cases h2 : Y < X
    · rw [if_pos h2]
      go_enter Tryd.func22, Tryd.ntmps22
      go_wp2
      go_ret
      exact ⟨rfl, 0, #[], by simp; rfl⟩
    · rw [if_neg h2]
      go_enter Tryd.func22, Tryd.ntmps22
      go_wp2
      go_ret
      exact ⟨rfl, 0, #[], by simp; rfl⟩
set_option maxHeartbeats 4000000 in
set_option maxRecDepth 100000 in
theorem lit_r (gx gy nx cx ny cy : Nat) (X Y : Int) (W : World) (hx : W.cell? ⟨gx, 0, none⟩ = some (.int .i64 X)) (hy : W.cell? ⟨gy, 0, none⟩ = some (.int .i64 Y)) (hnx : 0 < nx) (hny : 0 < ny) (bx : gx < W.heap.size) (by_ : gy < W.heap.size) :
    Calls Tryd.prog 21 #[.slice (some ⟨gx, 0, none⟩) nx cx, .slice (some ⟨gy, 0, none⟩) ny cy] W fun e w' => e = .returned (.int .i64 (cmpI X Y)) ∧ ∃ q os', w' = grow (W.drewN q) os' := by
  have l1 : ∀ n os, (grow (W.drewN n) os).cell? ⟨gx, 0, none⟩ = some (.int .i64 X) := fun n os => by rw [cell?_grow _ _ _ (by exact bx)]; exact hx
  have l2 : ∀ n os, (grow (W.drewN n) os).cell? ⟨gy, 0, none⟩ = some (.int .i64 Y) := fun n os => by rw [cell?_grow _ _ _ (by exact by_)]; exact hy
  have hc : ∀ n os, Calls Tryd.prog 22 #[.int .i64 X, .int .i64 Y] (grow (W.drewN n) os) fun e w' => e = .returned (.int .i64 (cmpI X Y)) ∧ ∃ q os', w' = grow ((grow (W.drewN n) os).drewN q) os' := fun n os => cmp_r X Y _
  have eg : ∀ args w, (callFunc 22 args).run Tryd.prog w = .ok (.enter 22 args) w := enters_of Tryd.func22 (by kernel_rfl) rfl
  have mixed : Tryd.prog.follows Departure.mixedOrders = true := by kernel_rfl
  have hnx' : (0 : Int) < (nx : Int) := by omega
  have hny' : (0 : Int) < (ny : Int) := by omega
  generalize cmpI X Y = r at hc ⊢
  clear hx hy bx by_
  go_enter Tryd.func21, Tryd.ntmps21
  go_wp2_with fail
  go_quiet_grown (first | (go_at_fn 22; refine Calls.grown_of (hc _ _)))
  go_wp2
  go_ret
  exact ⟨rfl, nq, osq, rfl⟩
/-- What a row of one's own that has something begins with. -/
theorem row_head {w : World} {base : Nat} {ok : Nat → Prop} {v : Value} {r : List Int} (h : (Kd.int .i64).R 3 w base ok v r) (hp : 0 < r.length) : ∃ gi ci, v = .slice (some ⟨gi, 0, none⟩) r.length ci ∧ ok gi ∧ gi < w.heap.size ∧ w.cell? ⟨gi, 0, none⟩ = some (.int .i64 (headI r)) := by
  obtain ⟨g, cap, rfl, hb, hl, -⟩ := Kd.R_form h hp
  obtain ⟨hn, hnc, hC⟩ := Kd.R_reads' h
  obtain ⟨ad, e, hc⟩ := hC.2.2 hp
  cases e
  obtain ⟨c, hs, hr, hcell⟩ := hc 0 _ (List.getElem?_eq_getElem hp)
  have e1 : c = [.int .i64 r[0]] := hr
  subst e1
  have h0 := hcell 0 _ rfl
  refine ⟨g, cap, rfl, h.1 g (by simp [Value.ownBlock]), hl, ?_⟩
  have e2 : headI r = r[0] := by
    cases r with
    | nil => simp at hp
    | cons x t => rfl
  rw [e2]
  simpa [Addr.add] using h0
theorem sw_other {α : Type} [Inhabited α] {enc : α → Value} {w : World} {g off m : Nat} {d : Array α} {os : Array Obj} {k : Nat} (hk : k < w.heap.size) (hg : k ≠ g) : (sortWorld enc w g off m d os).heap[k]? = w.heap[k]? := by
  unfold sortWorld
  rw [Go.Sort.heap_grow_old _ _ (by rw [size_putRow]; exact hk)]
  show ((Sort.ahead w m).heap.modify g _)[k]? = _
  rw [Array.getElem?_modify, if_neg (Ne.symm hg)]
  rfl
theorem sw_at {α : Type} [Inhabited α] {enc : α → Value} {w : World} {g off m : Nat} {d : Array α} {os : Array Obj} {cur : Array Value} {t : TypeId} (hk : w.heap[g]? = some (.cells cur t (0, 0))) : (sortWorld enc w g off m d os).heap[g]? = some (.cells (putCells enc off d cur) t (0, 0)) := by
  unfold sortWorld
  rw [Go.Sort.heap_grow_old _ _ (by rw [size_putRow]; exact blk_lt hk)]
  show ((Sort.ahead w m).heap.modify g _)[g]? = _
  rw [Array.getElem?_modify, if_pos rfl]
  show Option.map _ w.heap[g]? = _
  rw [hk]
  rfl
end

section
open Go.Shelf Go.Lib Go.Sort
theorem cmp_ls (X Y : Int) (m n : Nat) (h : m < n) : decide (cmpI Y X < 0) = (decide (Y < X) || (decide (Y = X) && decide (n < m))) := by
  have h2 : decide (n < m) = false := decide_eq_false (by omega)
  rw [h2, Bool.and_false, Bool.or_false]
  unfold cmpI
  by_cases h1 : Y < X
  · rw [if_pos h1, decide_eq_true h1]; rfl
  · rw [if_neg h1, decide_eq_false h1]
    by_cases h3 : X < Y
    · rw [if_pos h3]; rfl
    · rw [if_neg h3]; rfl
theorem fin_at {n : Nat} [Inhabited (Fin n)] (i : Nat) (hi : i < n) : (List.finRange n).toArray[i]! = ⟨i, hi⟩ := by
  rw [getElem!_pos _ i (by simpa using hi)]
  simp
theorem put_take {α : Type} [Inhabited α] (enc : α → Value) (d : Array α) (cur : Array Value) (h : d.size ≤ cur.size) : (putCells enc 0 d cur).toList.take d.size = d.toList.map enc := by
  apply List.ext_getElem
  · simp [putCells]; omega
  · intro i h1 h2
    have hi : i < d.size := by simpa using h2
    simp only [putCells, List.getElem_take, Array.getElem_toList, Array.getElem_mapIdx, List.getElem_map]
    rw [if_pos ⟨Nat.zero_le _, by omega⟩, Nat.sub_zero, getElem!_pos d i hi]
set_option maxHeartbeats 4000000 in
theorem sort_S (w : World) (base : Nat) (ok : Nat → Prop) (A : Option Addr) (n c : Nat) (rows : List (List Int)) (h : Kd.S (Kd.slice 3 (Kd.int .i64)) 36 w base ok (.slice A n c) rows) (h40 : rows.length ≤ 40) (hne : ∀ r ∈ rows, 0 < r.length) :
    Calls Tryd.prog 20 #[.slice A n c, .func (.func 21) #[] #[]] w fun e w' => e = .returned (.tuple #[]) ∧ Kd.S (Kd.slice 3 (Kd.int .i64)) 36 w' base ok (.slice A n c) (sortR rows) ∧ w.grownBy w' (Value.slice A n c).ownBlock := by
  have hn := (Kd.S_reads' h).1
  rcases Nat.eq_zero_or_pos rows.length with hz | hpos
  · obtain rfl : rows = [] := List.eq_nil_of_length_eq_zero hz
    obtain rfl : n = 0 := hn
    refine (sort_none A c _ _ w).mono ?_
    rintro e w' ⟨rfl, rfl⟩
    exact ⟨rfl, h, ⟨rfl, rfl, rfl, Nat.le_refl _, fun _ _ _ => rfl⟩⟩
  · subst hn
    obtain ⟨f, h0, inner, ho, hr⟩ := h
    rw [List.length_zipIdx] at ho
    obtain ⟨hil, hv⟩ := ho
    rcases hv with ⟨hv, hz⟩ | ⟨g, cap, cur, hv, hbg, hg, hnc, hcm, hcs, hct⟩
    · omega
    injection hv with e1 _ e2
    subst e1; subst e2
    have hil1 : inner.length = rows.length := by have h_ : inner.length = rows.length * 1 := hil; omega
    have hcs1 : cur.size = c := by have h_ : cur.size = c * 1 := hcs; omega
    have hct1 : cur.toList.take rows.length = inner := by have h_ : cur.toList.take (rows.length * 1) = inner := hct; rwa [Nat.mul_one] at h_
    have hib : Inhabited (Fin rows.length) := ⟨⟨0, hpos⟩⟩
    obtain ⟨enc, henc⟩ : ∃ enc : Fin rows.length → Value, ∀ i : Fin rows.length, inner[i.val]? = some (enc i) := ⟨fun i => inner[i.val]'(by rw [hil1]; exact i.2), fun i => List.getElem?_eq_getElem (by rw [hil1]; exact i.2)⟩
    have hM : ∀ i : Fin rows.length, (Kd.int .i64).R 3 w base (fun k => (ok k ∧ some k ≠ (Value.slice (some ⟨g, 0, none⟩) rows.length c).ownBlock) ∧ f k = i.val) (enc i) rows[i] := by
      intro i
      have h_ := hr.2 i.val (rows[i], i.val) (Kd.zip_at (List.getElem?_eq_getElem i.2))
      obtain ⟨v, hv, hR⟩ := h_
      have e3 : (inner.drop (i.val * 1)).take 1 = [enc i] := by
        rw [Nat.mul_one, List.take_one, List.head?_drop, henc i]; rfl
      have e4 : [enc i] = [v] := e3.symm.trans hv
      injection e4 with e5
      rw [e5]; exact hR
    have hpo : ∀ i : Fin rows.length, 0 < rows[i].length := fun i => hne _ (List.getElem_mem _)
    have hH : ∀ i : Fin rows.length, ∃ gi ci, enc i = .slice (some ⟨gi, 0, none⟩) rows[i].length ci ∧ gi ≠ g ∧ gi < w.heap.size ∧ w.cell? ⟨gi, 0, none⟩ = some (.int .i64 (headI rows[i])) := by
      intro i
      obtain ⟨gi, ci, e3, hok, hlt, hcell⟩ := row_head (hM i) (hpo i)
      exact ⟨gi, ci, e3, fun e => hok.1.2 (by rw [e]; rfl), hlt, hcell⟩
    have hO : OneCell enc := fun i => by obtain ⟨gi, ci, e3, -⟩ := hH i; rw [e3]; rfl
    have hgs : g < w.heap.size := blk_lt hg
    have hHolds : Holds enc w g 0 (List.finRange rows.length).toArray := by
      intro j hj
      have hj' : j < rows.length := by simpa using hj
      rw [fin_at j hj', Nat.zero_add]
      refine ⟨?_, blk_frozen hg j⟩
      rw [blk_cell hg j]
      have h_ := henc ⟨j, hj'⟩
      rw [← hct1, List.getElem?_take_of_lt hj', Array.getElem?_toList] at h_
      exact h_
    have hcmp : CmpLays1 Tryd.prog 21 #[] enc (fun x y : Fin rows.length => cmpI (headI rows[x]) (headI rows[y])) g 0 (List.finRange rows.length).toArray.size w := by
      intro m os dk _ x y
      obtain ⟨gx, cx, ex, hgx, hlx, hcx⟩ := hH x
      obtain ⟨gy, cy, ey, hgy, hly, hcy⟩ := hH y
      have o : ∀ k, k < w.heap.size → k ≠ g → (sortWorld enc w g 0 m dk os).heap[k]? = w.heap[k]? := fun k h1 h2 => sw_other h1 h2
      have hs : w.heap.size ≤ (sortWorld enc w g 0 m dk os).heap.size := by unfold sortWorld; rw [Go.Sort.size_grow, size_putRow]; exact Nat.le_add_right _ _
      have h_ := lit_r gx gy rows[x].length cx rows[y].length cy (headI rows[x]) (headI rows[y]) (sortWorld enc w g 0 m dk os) (by rw [World.cell?_of_block (o gx hlx hgx)]; exact hcx) (by rw [World.cell?_of_block (o gy hly hgy)]; exact hcy) (hpo x) (hpo y) (Nat.lt_of_lt_of_le hlx hs) (Nat.lt_of_lt_of_le hly hs)
      rw [← ex, ← ey] at h_
      exact h_
    have hsz : (List.finRange rows.length).toArray.size = rows.length := by simp
    have eg : ∀ args w, (callFunc 21 args).run Tryd.prog w = .ok (.enter 21 args) w := enters_of Tryd.func21 (by kernel_rfl) rfl
    have hl : ∀ x y : Fin rows.length, x.val < y.val → ltOf (fun x y : Fin rows.length => cmpI (headI rows[x]) (headI rows[y])) y x = lsK (fun i : Fin rows.length => headI rows[i]) (fun i => i.val) y x := by
      exact fun x y hxy => cmp_ls _ _ _ _ hxy
    have hsrt := sort_s enc (fun x y : Fin rows.length => cmpI (headI rows[x]) (headI rows[y])) (lsK (fun i : Fin rows.length => headI rows[i]) (fun i => i.val)) (fun i => i.val) 21 #[] g 0 c (List.finRange rows.length).toArray w
      eg hcmp ⟨hO, hHolds, hgs⟩ (lsK_swo _ _) hl (by rw [hsz]; omega) w (SW.start hHolds) (by rw [hsz]; exact h40) (by
        intro k j hkj hj
        have hj' : j < rows.length := by simpa using hj
        rw [fin_at k (by omega), fin_at j hj']; exact hkj)
    rw [hsz] at hsrt
    refine hsrt.mono ?_
    rintro e w' ⟨rfl, d', hp, hst, m, os, rfl⟩
    have R0 := sortR_of rows d' hp hst
    have hd : d'.size = rows.length := by rw [hp.1]; exact hsz
    have hnd : d'.toList.Nodup := R0.1.nodup_iff.2 (List.nodup_finRange _)
    have o : ∀ k, k < w.heap.size → k ≠ g → (sortWorld enc w g 0 m d' os).heap[k]? = w.heap[k]? := fun k h1 h2 => sw_other h1 h2
    have hgr : w.grownBy (sortWorld enc w g 0 m d' os) (Value.slice (some ⟨g, 0, none⟩) rows.length c).ownBlock := by
      refine ⟨rfl, rfl, rfl, by unfold sortWorld; rw [Go.Sort.size_grow, size_putRow]; exact Nat.le_add_right _ _, fun k h1 h2 => o k h1 (fun e => h2 (by rw [e]; rfl))⟩
    refine ⟨rfl, ?_, hgr⟩
    have hlen : (sortR rows).length = rows.length := sortK_length _ _
    obtain ⟨f', hf'⟩ : ∃ f' : Nat → Nat, ∀ (b j : Nat) (hj : j < d'.toList.length), f b = (d'.toList[j]).val → f' b = j := by
      refine ⟨fun b => (d'.toList.map (fun i => i.val)).idxOf (f b), fun b j hj e => ?_⟩
      have hm : (d'.toList.map (fun i => i.val)).Nodup := List.pairwise_map.2 (hnd.imp (fun h e => h (Fin.ext e)))
      show (d'.toList.map (fun i => i.val)).idxOf (f b) = j
      rw [e]
      have e6 : (d'.toList[j]).val = (d'.toList.map (fun i => i.val))[j]'(by rw [List.length_map]; exact hj) := by rw [List.getElem_map]
      rw [e6]
      exact hm.idxOf_getElem j _
    refine ⟨f', h0, d'.toList.map enc, ?_, ?_, ?_⟩
    · rw [List.length_zipIdx, hlen]
      refine ⟨by rw [List.length_map]; show d'.size = rows.length * 1; omega, Or.inr ⟨g, c, putCells enc 0 d' cur, rfl, hbg, sw_at hg, hnc, hcm, ?_, ?_⟩⟩
      · show (putCells enc 0 d' cur).size = c * 1
        rw [← hcs1, Nat.mul_one]; unfold putCells; rw [Array.size_mapIdx]
      · show (putCells enc 0 d' cur).toList.take (rows.length * 1) = _
        rw [Nat.mul_one]; exact (congrArg (fun n => List.take n _) hd.symm).trans (put_take enc d' cur (by omega))
    · rw [List.length_map, List.length_zipIdx, hlen]; show d'.size = rows.length * 1; omega
    · intro j p hj
      have hjl : j < (sortR rows).length := by
        have := (List.getElem?_eq_some_iff.1 hj).1; rwa [List.length_zipIdx] at this
      have hjd : j < d'.toList.length := by rw [Array.length_toList]; omega
      have ep : p = ((sortR rows)[j], j) := by
        have h_ := Kd.zip_at (List.getElem?_eq_getElem hjl)
        rw [hj] at h_
        exact Option.some.inj h_
      subst ep
      have e7 : (sortR rows)[j] = rows[d'.toList[j]] := by
        have h_ : (sortR rows)[j]? = (d'.toList.map (fun i => rows[i]))[j]? := by rw [R0.2]
        rw [List.getElem?_eq_getElem hjl, List.getElem?_map, List.getElem?_eq_getElem hjd] at h_
        exact Option.some.inj h_
      have e8 : ((d'.toList.map enc).drop (j * 1)).take 1 = [enc d'.toList[j]] := by
        rw [Nat.mul_one, List.take_one, List.head?_drop, List.getElem?_map, List.getElem?_eq_getElem hjd]; rfl
      show ∃ v, ((d'.toList.map enc).drop (j * 1)).take 1 = [v] ∧ _
      rw [e8]
      refine ⟨_, rfl, ?_⟩
      show (Kd.int .i64).R 3 _ base _ (enc d'.toList[j]) (sortR rows)[j]
      rw [e7]
      refine Kd.R_mono (Kd.R_step (hM d'.toList[j]) (fun k hk hlt => o k hlt (fun e => hk.1.2 (by rw [e]; rfl)))) (fun k hk => ⟨hk.1, hf' k j hjd hk.2⟩)
end

/-! ### slices_Clone_int_int: function 19 -/
def slices_Clone_int_int.f (l0 : List Int) : Option (List Int) := if 0 < l0.length then ((some (([] : List Int) : List Int)).bind fun y103 => (if y103.length + l0.length < 17592186044416 then (some (y103 ++ l0)) else (none))) else none
set_option maxHeartbeats 8000000 in
set_option maxRecDepth 100000 in
theorem slices_Clone_int_int.calls (A0 : Option Addr) (c0 : Nat) (l0 : List Int) (r : List Int) (w : World) (hr0 : Kd.C (Kd.int .i64) w A0 l0.length l0) (hc0 : l0.length ≤ c0) (h : slices_Clone_int_int.f l0 = some r) :
    Calls Tryd.prog 19 #[.slice A0 l0.length c0] w fun e w' => ∃ v0_ : Value, e = .returned (v0_) ∧ Kd.R (Kd.int .i64) 3 w' w.heap.size (fun _ => True) v0_ r ∧ Below w.heap.size w w' := by
  have HR0 := Aside0.mk hr0
  have HC0 := Aside0.mk hc0
  clear hr0 hc0
  have HB := Aside0.mk (Below.refl w.heap.size w)
  have q_ : ∀ (w : World) (a : Option Addr) (n c n' c' : Nat), (binOp .eql 36 (.slice a n c) (.slice none n' c')).run Tryd.prog w = .ok (.bool a.isNone) w := fun w a n c n' c' => Lib.run_eql_slice_nil w _ _ a n c n' c' Tryd.underlying36
  have hpos : 0 < l0.length := by
    by_cases hp : 0 < l0.length
    · exact hp
    · unfold slices_Clone_int_int.f at h; rw [if_neg hp] at h; cases h
  have H : ((some (([] : List Int) : List Int)).bind fun y103 => (if y103.length + l0.length < 17592186044416 then (some (y103 ++ l0)) else (none))) = some r := by unfold slices_Clone_int_int.f at h; rwa [if_pos hpos] at h
  clear h
  obtain ⟨ad0_, ead0_, -⟩ := HR0.out.2.2 hpos
  subst ead0_
  obtain ⟨y103, hy103⟩ : ∃ y_ : List Int, y_ = (([] : List Int)) := ⟨_, rfl⟩
  replace H : (if y103.length + l0.length < 17592186044416 then (some (y103 ++ l0)) else (none)) = some r := by first | (rw [hy103]; with_reducible exact H) | (have H2_ := (Option.bind_some _ _).symm.trans H; rw [hy103]; with_reducible exact H2_) | (have H2_ := (Option.bind_some _ _).symm.trans H; with_reducible exact H2_) | with_reducible exact H | (rw [hy103]; exact H) | exact H
  have Ny103 := Aside0.mk hy103
  clear hy103
  by_cases c2 : y103.length + l0.length < 17592186044416
  · rw [if_pos c2] at H
    have LMc2 := Aside0.mk c2
    clear c2
    obtain ⟨y106, hy106⟩ : ∃ y_ : List Int, y_ = (y103 ++ l0) := ⟨_, rfl⟩
    replace H : (some y106) = some r := by first | (rw [hy106]; with_reducible exact H) | (have H2_ := (Option.bind_some _ _).symm.trans H; rw [hy106]; with_reducible exact H2_) | (have H2_ := (Option.bind_some _ _).symm.trans H; with_reducible exact H2_) | with_reducible exact H | (rw [hy106]; exact H) | exact H
    have Ny106 := Aside0.mk hy106
    clear hy106
    obtain rfl := Option.some.inj H
    go_enter Tryd.func19, Tryd.ntmps19
    go_wp2_with (first | ((with_reducible refine gate_dst (N := 5) rfl ?_); refine Kd.R_lit (Kd.int .i64) _ 3 ?hg (N := 5) ?hd (xs := ([] : List Int)) (inner := []) (ok := fun _ => True) (okp := fun _ => True) ?hr ?hp (fun _ hk => hk) trivial (Below.refl _ _) (Nat.le_refl _) (by simp) ?_; (case hd => rfl); (case hg => rfl); (case hr => first | (go_simp; done) | (go_simp; rfl)); (case hp => exact (Reps.none _ _)); intro v104 w3 ho4 hb hg_ hnew_; clear hg_ hnew_; (first | rw [← Ny103.out] at ho4 | (simp only [Int.reduceToNat] at ho4; rw [← Ny103.out] at ho4)); have n0_ := Aside0.mk (Kd.R_lower ho4 (below_size (by repeat (first | (with_reducible first | exact HB.out | apply below_alloc | apply pw_below_drewN | apply below_drew1) | exact HB.out)))); have n1_ := Aside0.mk (below_step (by repeat (first | (with_reducible first | exact HB.out | apply below_alloc | apply pw_below_drewN | apply below_drew1) | exact HB.out)) hb); clear HB; have HO105 := n0_; have HB := n1_; clear n0_ n1_; clear hb ho4) | ((with_reducible refine gate_builtin (b := .append) (xs := #[.tmp 5, .tmp 6]) rfl ?_); at_builtin; refine Kd.R_append_rows (Kd.int .i64) (w0 := w) w.heap.size rfl (.tmp 5) (.tmp 6) 36 3 (.int .i64 0) 8 rfl Tryd.underlying36 info3 rfl (by decide) (by omega) v104 y103 l0 _ _ _ (fun _ => True) (fun _ => False) rfl rfl ?aO ?aR (fun _ _ h => h) (fun _ h => h.elim) ?aF ?aB ?aS ?aL ?_; (case aR => repeat (first | exact (Kd.C_below HR0.out HB.out) | (with_reducible refine Kd.C_alloc ?_ _) | (with_reducible refine Kd.C_drewN ?_ _) | (with_reducible refine Kd.C_drew ?_))); (case aB => exact (by repeat (first | (with_reducible first | exact HB.out | apply below_alloc | apply pw_below_drewN | apply below_drew1) | exact HB.out))); (case aF => exact (fun _ _ => trivial)); (case aO => exact (by (with_reducible repeat (first | apply Kd.R_alloc | apply Kd.R_drewN | apply Kd.R_drew)); exact HO105.out)); (case aS => exact (below_size (by repeat (first | (with_reducible first | exact HB.out | apply below_alloc | apply pw_below_drewN | apply below_drew1) | exact HB.out)))); (case aL => have := LMc2.out; omega); intro v107 w5 ho hb hg hat; rw [← Ny106.out] at ho; have n0_ := Aside0.mk (hb); have n1_ := Aside0.mk (ho); clear HB; clear HO105; have HB := n0_; have HO108 := n1_; clear n0_ n1_; clear ho hb hg hat))
    go_ret
    exact ⟨_, by first | rfl | (simp [errW_none, errW_some] <;> rfl) | (simp [*, errW_none, errW_some] <;> rfl), by (with_reducible repeat (first | apply Kd.R_alloc | apply Kd.R_drewN | apply Kd.R_drew)); exact HO108.out, by repeat (first | (with_reducible first | exact HB.out | apply below_alloc | apply pw_below_drewN | apply below_drew1) | exact HB.out)⟩
  · rw [if_neg c2] at H
    exact absurd H (by simp)

/-! ### plan_Sorted: function 7 -/
def plan_Sorted.l0 : Nat → List (List Int) → List (List Int) → Int → Int → Option ((List (List Int)))
  | 0, _, _, _, _ => none
  | k + 1, x3, x7, x8, x9 => if x9 < x8 then (if 0 ≤ x9 then (if x9 < (x7.length : Int) then (if ((rd_L1 x7 x9).length : Int) > 0 then ((slices_Clone_int_int.f (rd_L1 x7 x9)).bind fun t112 => (if x3.length < 5864062014805 then (plan_Sorted.l0 k (x3 ++ [t112]) x7 x8 (wrap64 (x9 + 1))) else (none))) else (plan_Sorted.l0 k x3 x7 x8 (wrap64 (x9 + 1)))) else (none)) else (none)) else (some x3)
def plan_Sorted.g (k : Nat) (l0_0 : List (List Int)) : Option ((List (List Int))) := plan_Sorted.l0 k ([] : List (List Int)) l0_0 (l0_0.length : Int) 0
theorem plan_Sorted.mono_l : ∀ k, (∀ y0 y1 y2 y3, LeO (plan_Sorted.l0 k y0 y1 y2 y3) (plan_Sorted.l0 (k + 1) y0 y1 y2 y3))
  | 0 => fun _ _ _ _ r h => by simp [plan_Sorted.l0] at h
  | k + 1 => by
    have ih0 := plan_Sorted.mono_l k
    · intro y0 y1 y2 y3
      unfold plan_Sorted.l0
      repeat' first
      | (with_reducible exact ih0 _ _ _ _)
      | (with_reducible exact LeO.refl _)
      | (with_reducible exact LeO.none _)
      | (with_reducible refine LeO.ite ?_ ?_)
      | (with_reducible refine LeO.bind ?_ (fun _ => ?_))
      | exact ih0 _ _ _ _
      | exact LeO.none _
      | refine LeO.ite ?_ ?_
      | refine LeO.bind ?_ (fun _ => ?_)
theorem plan_Sorted.monog : ∀ a0 k, LeO (plan_Sorted.g k a0) (plan_Sorted.g (k + 1) a0) := by
  intro a0 k
  have ih0 := plan_Sorted.mono_l k
  unfold plan_Sorted.g
  repeat' first
      | (with_reducible exact ih0 _ _ _ _)
      | (with_reducible exact LeO.refl _)
      | (with_reducible exact LeO.none _)
      | (with_reducible refine LeO.ite ?_ ?_)
      | (with_reducible refine LeO.bind ?_ (fun _ => ?_))
      | exact ih0 _ _ _ _
      | exact LeO.none _
      | refine LeO.ite ?_ ?_
      | refine LeO.bind ?_ (fun _ => ?_)
set_option maxHeartbeats 16000000 in
set_option maxRecDepth 100000 in
theorem plan_Sorted.callsg (k : Nat) (A0_0 : Option Addr) (c0_0 : Nat) (l0_0 : List (List Int)) (r : List (List Int)) (w : World) (hr0_0 : Kd.C (Kd.slice 3 (Kd.int .i64)) w A0_0 l0_0.length l0_0) (hc0_0 : l0_0.length ≤ c0_0) (h : plan_Sorted.g k l0_0 = some r) (h40 : r.length ≤ 40) (hne : ∀ x ∈ r, 0 < x.length) :
  Calls Tryd.prog 7 #[.agg #[.slice A0_0 l0_0.length c0_0]] w fun e w' => ∃ v0_ : Value, e = .returned (.agg #[v0_]) ∧ Kd.S (Kd.slice 3 (Kd.int .i64)) 36 w' w.heap.size (fun _ => True) v0_ (sortR r) ∧ Below w.heap.size w w' := by
 have H40 := zqi h40
 have HNE := zqi hne
 clear h40 hne
 have hu24 := Tryd.underlying24
 have HR0_0 := zqi hr0_0
 have HC0_0 := zqi hc0_0
 clear hr0_0 hc0_0
 have HB := zqi (Below.refl w.heap.size w)
 have H : (plan_Sorted.l0 k ([] : List (List Int)) l0_0 (l0_0.length : Int) 0) = some r := h
 clear h
 have H' := zqi H
 clear H
 go_enter Tryd.func7, Tryd.ntmps7
 go_wp2_with (first | ((with_reducible refine gate_dst (N := 1) rfl ?_); refine box_event ?hg (N := 1) ?hd (cs := #[.slice A0_0 l0_0.length c0_0]) (t := 24) ?hr ?_; (case hd => rfl); (case hg => rfl); (case hr => first | (go_simp; done) | (go_simp; rfl)); intro gb109 hg w2 hbox hb; have n0_ := zqi (below_step (zqn HB.out) hb); have n1_ := zqi (hbox); have n2_ := zqi (zqo hg HB.out); have n3_ := zqi (zqo hg HB.out); clear HB; have HB := n0_; have BK109 := n1_; have GW109 := n2_; have GE109 := n3_; clear n0_ n1_ n2_ n3_; clear hb hbox hg) | ((with_reducible refine gate_dst (N := 2) rfl ?_); refine box_event ?hg (N := 2) ?hd (cs := #[.slice none 0 0]) (t := 24) ?hr ?_; (case hd => rfl); (case hg => rfl); (case hr => first | (go_simp; done) | (go_simp; rfl)); intro gb110 hg w3 hbox hb; have n0_ := zqi (zqy BK109.out hb); have n1_ := zqi (below_step (zqn HB.out) hb); have n2_ := zqi (hbox); have n3_ := zqi (zqo hg HB.out); have n4_ := zqi (zqo hg HB.out); have n5_ := zqi ((zqq hg BK109.out)); have n6_ := zqi ((zqr hg BK109.out)); clear BK109; clear HB; have BK109 := n0_; have HB := n1_; have BK110 := n2_; have GW110 := n3_; have GE110 := n4_; have NB109_110 := n5_; have NB110_109 := n6_; clear n0_ n1_ n2_ n3_ n4_ n5_ n6_; clear hb hbox hg; have hnb4 := NB109_110.out; have hnc4 := NB110_109.out; have hcz5_0 : w3.cell? ⟨gb109, 0, none⟩ = some (.slice A0_0 l0_0.length c0_0) := (zqe BK109.out 0).trans rfl; have hfz5_0 := zqd BK109.out 0))
 go_loopg [3, 9] k (fun kq v3 v9 w' => ∃ (x3_1 : List (List Int)) (x9_1 : Int), v9 = .int .i64 x9_1 ∧ Aside0 (plan_Sorted.l0 kq x3_1 l0_0 (l0_0.length : Int) x9_1 = some r) ∧ Aside0 (kq ≤ k) ∧ Aside0 (Kd.S (Kd.slice 3 (Kd.int .i64)) 36 w' w.heap.size (fun _ => True) v3 x3_1) ∧ Aside0 (w'.heap[gb109]? = some (.cells #[(.slice A0_0 l0_0.length c0_0)] 24 (0, 0))) ∧ Aside0 (w'.heap[gb110]? = some (.cells #[(.slice none 0 0)] 24 (0, 0))) ∧ Aside0 (Below w.heap.size w w'))
 case atStart => exact ⟨(([] : List (List Int))), (0), (by first | rfl | (simp; done) | (simp [*]; done)), H', ⟨Nat.le_refl _⟩, ⟨by first | exact Kd.S_nil _ _ _ _ _ | exact Kd.N_nil _ _ _ _ _ | exact Kd.V_nil _ _ _ _ _ | exact Kd.Q_nil _ _ _ _ _ | exact Kd.R_nil _ _ _ _ _⟩, ⟨by (with_reducible repeat (first | apply zqa | apply zqb | apply zqc)); exact BK109.out⟩, ⟨by (with_reducible repeat (first | apply zqa | apply zqb | apply zqc)); exact BK110.out⟩, ⟨by repeat (first | (with_reducible first | exact HB.out | apply zqg | apply zqf | apply zqh | refine below_set ?_ GE109.out | refine below_set ?_ GE110.out) | exact HB.out)⟩⟩
 case round =>
  clear H'
  try clear p2
  try clear c4
  try clear hcz5_0
  try clear hfz5_0
  obtain ⟨x3_1, x9_1, rfl, HA, HK1, HO_3, BK109, BK110, HB⟩ := hrel
  cases gk with
  | zero => exact absurd HA.out (by simp [plan_Sorted.l0])
  | succ k1 =>
   have H := HA.out
   clear HA
   simp only [plan_Sorted.l0] at H
   by_cases c6 : x9_1 < (l0_0.length : Int)
   ·
    rw [if_pos c6] at H
    have c6b0 : decide (x9_1 < (l0_0.length : Int)) = true := decide_eq_true c6
    clear c6
    by_cases c7 : 0 ≤ x9_1
    ·
     rw [if_pos c7] at H
     have c7b0 : decide (0 ≤ x9_1) = true := decide_eq_true c7
     clear c7
     by_cases c8 : x9_1 < (l0_0.length : Int)
     ·
      rw [if_pos c8] at H
      have c8b0 : decide (x9_1 < (l0_0.length : Int)) = true := decide_eq_true c8
      clear c8
      by_cases c9 : ((rd_L1 l0_0 x9_1).length : Int) > 0
      ·
       rw [if_pos c9] at H
       have c9b0 : decide (0 < ((rd_L1 l0_0 x9_1).length : Int)) = true := decide_eq_true c9
       have c9b1 : decide (0 < (rd_L1 l0_0 x9_1).length) = true := decide_eq_true (by omega)
       clear c9
       replace H := Option.bind_eq_some_iff.mp H
       obtain ⟨t112, A100, H⟩ := H
       replace H : (if x3_1.length < 5864062014805 then (plan_Sorted.l0 k1 (x3_1 ++ [t112]) l0_0 (l0_0.length : Int) (wrap64 (x9_1 + 1))) else (none)) = some r := H
       have A10 := zqi A100
       clear A100
       by_cases c11 : x3_1.length < 5864062014805
       ·
        rw [if_pos c11] at H
        have LMc11 := zqi c11
        clear c11
        obtain ⟨y115, hy115⟩ : ∃ y_ : List (List Int), y_ = (x3_1 ++ [t112]) := ⟨_, rfl⟩
        replace H : (plan_Sorted.l0 k1 y115 l0_0 (l0_0.length : Int) (wrap64 (x9_1 + 1))) = some r := by first | (rw [hy115]; with_reducible exact H) | (have H2_ := (Option.bind_some _ _).symm.trans H; rw [hy115]; with_reducible exact H2_) | (have H2_ := (Option.bind_some _ _).symm.trans H; with_reducible exact H2_) | with_reducible exact H | (rw [hy115]; exact H) | exact H
        have Ny115 := zqi hy115
        clear hy115
        have H' := zqi H
        clear H
        have p111 : 0 ≤ (x9_1 : Int) := of_decide_eq_true (by first | (with_reducible assumption) | assumption)
        have q111 : x9_1 < (l0_0.length : Int) := of_decide_eq_true (by first | (with_reducible assumption) | assumption)
        obtain ⟨ad111, A111_0, c111_0, e111, hx111_0, hl111_0, hi111_0⟩ := at_L1 HR0_0.out x9_1 p111 q111
        cases e111
        replace hx111_0 := (HB.out.cell (World.block_lt_of_cell? w _ hx111_0)).trans hx111_0
        have HR111_0 := zqi hi111_0
        have HC111_0 := zqi hl111_0
        clear hi111_0 hl111_0
        replace p111 := eq_true p111
        replace q111 := eq_true q111
        go_wp2_with (first | ((with_reducible refine gate_callee (f := 19) rfl ?_); refine goesL_ (some 18) rfl rfl Tryd.func19 (by kernel_rfl) rfl #[.slice A111_0 (rd_L1 l0_0 x9_1).length c111_0] rfl (by (try simp only [List.map_toArray, List.map_cons, List.map_nil]); first | done | rfl | (simp only [List.length_drop, List.length_take]; rfl)) ?_; (with_reducible refine (slices_Clone_int_int.calls _ _ (rd_L1 l0_0 x9_1) t112 _ ?side1 ?side2 A10.out).mono ?_); (case side1 => repeat (first | exact (Kd.C_below HR111_0.out HB.out) | (with_reducible refine Kd.C_alloc ?_ _) | (with_reducible refine Kd.C_drewN ?_ _) | (with_reducible refine Kd.C_drew ?_))); (case side2 => exact HC111_0.out); rintro e w12 ⟨v113, rfl, ho0, hb⟩; refine ⟨_, rfl, ?_⟩; have n0_ := zqi (Kd.S_elder' (by (with_reducible repeat (first | apply Kd.S_alloc | apply Kd.S_drewN | apply Kd.S_drew)); exact HO_3.out) (Kd.R_base ho0) hb); have n1_ := zqi (Kd.R_lower ho0 (below_size (zqn HB.out))); have n2_ := zqi (zqy BK109.out hb); have n3_ := zqi (zqy BK110.out hb); have n4_ := zqi (below_step (zqn HB.out) hb); clear HO_3; clear BK109; clear BK110; clear HB; have HO_3 := n0_; have HO114 := n1_; have BK109 := n2_; have BK110 := n3_; have HB := n4_; clear n0_ n1_ n2_ n3_ n4_; (try clear hb); (try clear hb2); (try clear hk); (try clear hi); (try clear ho0); obtain ⟨Ao14, co14, eo14⟩ := Kd.R_slice HO114.out; subst eo14) | ((with_reducible refine gate_builtin (b := .append) (xs := #[.tmp 16, .tmp 19]) rfl ?_); at_builtin; refine Kd.S_append (Kd.slice 3 (Kd.int .i64)) (w0 := w) w.heap.size rfl (.tmp 16) (.tmp 19) 22 36 (.slice none 0 0) 24 rfl Tryd.underlying22 info36 rfl (by decide) (by omega) u3 x3_1 t112 [.slice Ao14 t112.length co14] (fun _ => True) (fun k_ => some k_ = (.slice Ao14 t112.length co14 : Value).ownBlock) rfl rfl ?aP (fun k_ hk_ => ((Kd.R_mono (ok' := fun k_ => ((fun _ => True)) k_ ∧ some k_ ≠ (u3 : Value).ownBlock) (Kd.R_apart' (HO114.out) (Kd.S_typed HO_3.out) (by decide)) (fun k_ hk => ⟨trivial, hk.2⟩))).1 k_ hk_.symm) ?aF ?aO ?aB ?aS ?aL ?_; (case aP => exact Kd.M_row (Kd.R_mono (Kd.R_tight rfl (Kd.R_mono (ok' := fun k_ => ((fun _ => True)) k_ ∧ some k_ ≠ (u3 : Value).ownBlock) (Kd.R_apart' (HO114.out) (Kd.S_typed HO_3.out) (by decide)) (fun k_ hk => ⟨trivial, hk.2⟩))) (fun _ h_ => h_))); (case aB => exact (zqn HB.out)); (case aF => exact (fun _ _ => trivial)); (case aO => exact (by (with_reducible repeat (first | apply Kd.S_alloc | apply Kd.S_drewN | apply Kd.S_drew)); exact Kd.S_mono HO_3.out (fun k_ hk => ⟨trivial, fun e_ => hk.2 e_⟩))); (case aS => exact (below_size (zqn HB.out))); (case aL => have := LMc11.out; omega); intro v116 w13 ho hb hg hat; rw [← Ny115.out] at ho; have n0_ := zqi (blk_grown (g := gb109) (o := .cells #[.slice (some ad111) l0_0.length c0_0] 24 (0, 0)) (zqm BK109.out) hg (Kd.S_ne HO_3.out BK109.out (by decide))); have n1_ := zqi (blk_grown (g := gb110) (o := .cells #[.slice none 0 0] 24 (0, 0)) (zqm BK110.out) hg (Kd.S_ne HO_3.out BK110.out (by decide))); have n2_ := zqi (hb); have n3_ := zqi (ho); clear BK109; clear BK110; clear HB; clear HO_3; clear HO114; have BK109 := n0_; have BK110 := n1_; have HB := n2_; have HO117 := n3_; clear n0_ n1_ n2_ n3_; clear ho hb hg hat))
        go_roundg k1
        case measure => have := HK1.out; omega
        case rel => exact ⟨(y115), (wrap64 (x9_1 + 1)), (by first | rfl | (simp; done) | (simp [*]; done)), H', ⟨by have := HK1.out; omega⟩, ⟨by (with_reducible repeat (first | apply Kd.S_alloc | apply Kd.S_drewN | apply Kd.S_drew)); exact HO117.out⟩, ⟨by (with_reducible repeat (first | apply zqa | apply zqb | apply zqc)); exact BK109.out⟩, ⟨by (with_reducible repeat (first | apply zqa | apply zqb | apply zqc)); exact BK110.out⟩, ⟨by repeat (first | (with_reducible first | exact HB.out | apply zqg | apply zqf | apply zqh | refine below_set ?_ GE109.out | refine below_set ?_ GE110.out) | exact HB.out)⟩⟩
       ·
        rw [if_neg c11] at H
        exact absurd H (by simp)
      ·
       rw [if_neg c9] at H
       have c9b0 : decide (0 < ((rd_L1 l0_0 x9_1).length : Int)) = false := decide_eq_false c9
       have c9b1 : decide (0 < (rd_L1 l0_0 x9_1).length) = false := decide_eq_false (by omega)
       clear c9
       have H' := zqi H
       clear H
       have p111 : 0 ≤ (x9_1 : Int) := of_decide_eq_true (by first | (with_reducible assumption) | assumption)
       have q111 : x9_1 < (l0_0.length : Int) := of_decide_eq_true (by first | (with_reducible assumption) | assumption)
       obtain ⟨ad111, A111_0, c111_0, e111, hx111_0, hl111_0, hi111_0⟩ := at_L1 HR0_0.out x9_1 p111 q111
       cases e111
       replace hx111_0 := (HB.out.cell (World.block_lt_of_cell? w _ hx111_0)).trans hx111_0
       have HR111_0 := zqi hi111_0
       have HC111_0 := zqi hl111_0
       clear hi111_0 hl111_0
       replace p111 := eq_true p111
       replace q111 := eq_true q111
       go_wp2
       go_roundg k1
       case measure => have := HK1.out; omega
       case rel => exact ⟨(x3_1), (wrap64 (x9_1 + 1)), (by first | rfl | (simp; done) | (simp [*]; done)), H', ⟨by have := HK1.out; omega⟩, ⟨by (with_reducible repeat (first | apply Kd.S_alloc | apply Kd.S_drewN | apply Kd.S_drew)); exact HO_3.out⟩, ⟨by (with_reducible repeat (first | apply zqa | apply zqb | apply zqc)); exact BK109.out⟩, ⟨by (with_reducible repeat (first | apply zqa | apply zqb | apply zqc)); exact BK110.out⟩, ⟨by repeat (first | (with_reducible first | exact HB.out | apply zqg | apply zqf | apply zqh | refine below_set ?_ GE109.out | refine below_set ?_ GE110.out) | exact HB.out)⟩⟩
     ·
      rw [if_neg c8] at H
      exact absurd H (by simp)
    ·
     rw [if_neg c7] at H
     exact absurd H (by simp)
   ·
    rw [if_neg c6] at H
    have c6b0 : decide (x9_1 < (l0_0.length : Int)) = false := decide_eq_false c6
    clear c6
    obtain rfl := Option.some.inj H
    obtain ⟨Ao15, co15, eo15⟩ := Kd.S_slice HO_3.out
    subst eo15
    have hnb16 := NB110_109.out
    have hnc16 := NB109_110.out
    have hcz17_0 : wr.cell? ⟨gb110, 0, none⟩ = some (.slice none 0 0) := (zqe BK110.out 0).trans rfl
    have hfz17_0 := zqd BK110.out 0
    go_wp2_with (go_at_call 20; (with_reducible refine (sort_S wr w.heap.size (fun k_ => k_ ≠ gb109 ∧ k_ ≠ gb110) Ao15 _ co15 x3_1 (Kd.S_mono (Kd.S_types (Kd.S_types HO_3.out BK109.out (by decide)) BK110.out (by decide)) (fun _ hk => ⟨hk.1.2, hk.2⟩)) H40.out HNE.out).mono ?_); rintro e_ ws ⟨rfl, hs_, hg_⟩; have BK109' := zqi (blk_grown BK109.out hg_ (Kd.S_ne HO_3.out BK109.out (by decide))); have BK110' := zqi (blk_grown BK110.out hg_ (Kd.S_ne HO_3.out BK110.out (by decide))); have HB' := zqi (HB.out.grown hg_ (below_size HB.out) (Kd.S_base HO_3.out)); have HO_3' := zqi hs_; clear BK109 BK110 HB HO_3 hcz17_0 hfz17_0 hg_ hs_; have hcz17_0 := cell0 BK110'.out; have hfz17_0 := zqd BK110'.out 0)
    refine bodyPost_ret (results_cell_row rfl _ _ gb110 24 #[.slice Ao15 x3_1.length co15] (0, 0) _ rfl (by (with_reducible repeat (first | apply zqa | apply zqb | apply zqc)); refine blk_put (cs := #[.slice none 0 0]) ?_ 0 _ rfl; (with_reducible repeat (first | apply zqa | apply zqb | apply zqc)); exact BK110'.out) Tryd.underlying24 rfl (by kernel_rfl)) rfl ?_
    exact ⟨_, by first | rfl | (simp [errW_none, errW_some] <;> rfl) | (simp [*, errW_none, errW_some] <;> rfl), by (with_reducible repeat (first | apply Kd.S_alloc | apply Kd.S_drewN | apply Kd.S_drew)); exact Kd.S_mono (Kd.S_far (p := ⟨gb110, 0, none⟩) (Kd.S_types HO_3'.out BK110'.out (by decide)) (fun _ hk => hk.2) (.slice Ao15 x3_1.length co15)) (fun _ hk => trivial), by repeat (first | (with_reducible first | exact HB'.out | apply zqg | apply zqf | apply zqh | refine below_set ?_ GE109.out | refine below_set ?_ GE110.out) | exact HB'.out)⟩
/-- The rows that hold something, in the order of their first numbers. -/
def plan_Sorted.f (k : Nat) (l0_0 : List (List Int)) : Option (List (List Int)) := (plan_Sorted.g k l0_0).bind fun x => if x.length ≤ 40 ∧ (x.all fun y => decide (0 < y.length)) = true then some (sortR x) else none
theorem plan_Sorted.mono : ∀ a0 k, LeO (plan_Sorted.f k a0) (plan_Sorted.f (k + 1) a0) := fun a0 k => LeO.bind (plan_Sorted.monog a0 k) (fun _ => LeO.refl _)
theorem plan_Sorted.calls (k : Nat) (A0_0 : Option Addr) (c0_0 : Nat) (l0_0 : List (List Int)) (r : List (List Int)) (w : World) (hr0_0 : Kd.C (Kd.slice 3 (Kd.int .i64)) w A0_0 l0_0.length l0_0) (hc0_0 : l0_0.length ≤ c0_0) (h : plan_Sorted.f k l0_0 = some r) :
  Calls Tryd.prog 7 #[.agg #[.slice A0_0 l0_0.length c0_0]] w fun e w' => ∃ v0_ : Value, e = .returned (.agg #[v0_]) ∧ Kd.S (Kd.slice 3 (Kd.int .i64)) 36 w' w.heap.size (fun _ => True) v0_ r ∧ Below w.heap.size w w' := by
 obtain ⟨x, hx, hr⟩ := Option.bind_eq_some_iff.mp h
 by_cases hc : x.length ≤ 40 ∧ (x.all fun y => decide (0 < y.length)) = true
 ·
  rw [if_pos hc] at hr
  obtain rfl := Option.some.inj hr
  exact plan_Sorted.callsg k A0_0 c0_0 l0_0 x w hr0_0 hc0_0 hx hc.1 (fun y hy => of_decide_eq_true (List.all_eq_true.1 hc.2 y hy))
 ·
  rw [if_neg hc] at hr
  cases hr


end Go.Proofs.YtdkhajgfifaibaaDoor.PA
