-- Printed for this claim by wip/tools/xprint.py over the kit's print; the contracts marked BY HAND are this session's own.
import Derived.Test.YtdkhajgfifaibaaDoorPAx0
namespace Go.Proofs.YtdkhajgfifaibaaDoor.PA
open Go.RowKit Go.Proofs.YtdkhajgfifaibaaDoorW.PrintWords Go.Proofs.YtdkhajgfifaibaaDoorW.PrintLast Go.Proofs.YtdkhajgfifaibaaDoorW.PrintMore
attribute [local go_sem] max2_int min2_int max_two min_two max_three min_three max_four min_four   -- for this text's walks alone
set_option linter.unusedVariables false
set_option linter.unusedSimpArgs false

/-! ### scan_reader_line: function 41, BY HAND -/
open Go.Proofs.YtdkhajgfifaibaaDoor.Scan
theorem hidI {p : Prop} (h : p) : Hid p := h
/-- Jumps to any label of the scope. -/
def Jumps (J : Nat → Act → World → Prop) (Q : Exit → Act → World → Prop) : Exit → Act → World → Prop
  | .goto l, a, w => J l a w
  | e, a, w => Q e a w
theorem wp_scope_labels {P : Program} {a : Act} {w : World} {Q : Exit → Act → World → Prop} {c : Code} (J : Nat → Nat → Act → World → Prop)
    (first : c.wp P (Jumps (fun l a w => ∃ m, J m l a w) Q) a w)
    (pass : ∀ m l a w, J m l a w → ∃ rest, findLabel c l = some rest ∧ rest.wp P (Jumps (fun l' a' w' => ∃ m', m' < m ∧ J m' l' a' w') Q) a w) : (Code.scope c).wp P Q a w := by
  intro b k cs
  have key : ∀ n l a w, J n l a w → ∃ rest, findLabel c l = some rest ∧ ∃ e a' w', Q e a' w' ∧ Arrives P (lone (b.at a (.code rest :: .inScope c :: k)) cs w) b k cs e a' w' := by
    intro n
    induction n using Nat.strongRecOn with
    | _ n ih =>
      intro l a w hJ
      obtain ⟨rest, hf, hr⟩ := pass n l a w hJ
      refine ⟨rest, hf, ?_⟩
      obtain ⟨e, a₁, w₁, hq, harr⟩ := hr b (.inScope c :: k) cs
      cases e with
      | normal => exact ⟨.normal, a₁, w₁, hq, Steps.trans harr (.one step_inScope)⟩
      | exit id => exact ⟨.exit id, a₁, w₁, hq, fun k' hk => harr k' (by simp [exitTo, hk])⟩
      | goto l' =>
        obtain ⟨m', hlt, hJ'⟩ := hq
        obtain ⟨rest', hf', e₂, a₂, w₂, hq₂, harr₂⟩ := ih m' hlt l' a₁ w₁ hJ'
        have hg : gotoIn l' (.inScope c :: k) = some (.code rest' :: .inScope c :: k) := by simp [gotoIn, hf']
        exact ⟨e₂, a₂, w₂, hq₂, .of_steps (harr _ hg) harr₂⟩
      | ret => exact ⟨_, a₁, w₁, hq, harr⟩
      | panic ch => exact ⟨_, a₁, w₁, hq, harr⟩
      | outgrown => exact ⟨_, a₁, w₁, hq, harr⟩
  obtain ⟨e, a₁, w₁, hq, harr⟩ := first b (.inScope c :: k) cs
  cases e with
  | normal => exact ⟨.normal, a₁, w₁, hq, .head step_scope (Steps.trans harr (.one step_inScope))⟩
  | exit id => exact ⟨.exit id, a₁, w₁, hq, fun k' hk => .head step_scope (harr k' (by simp [exitTo, hk]))⟩
  | goto l' =>
    obtain ⟨m', hJ'⟩ := hq
    obtain ⟨rest', hf', e₂, a₂, w₂, hq₂, harr₂⟩ := key m' l' a₁ w₁ hJ'
    have hg : gotoIn l' (.inScope c :: k) = some (.code rest' :: .inScope c :: k) := by simp [gotoIn, hf']
    exact ⟨e₂, a₂, w₂, hq₂, .of_steps (.head step_scope (harr _ hg)) harr₂⟩
  | ret => exact ⟨_, a₁, w₁, hq, .of_steps (.one step_scope) harr⟩
  | panic ch => exact ⟨_, a₁, w₁, hq, .of_steps (.one step_scope) harr⟩
  | outgrown => exact ⟨_, a₁, w₁, hq, .of_steps (.one step_scope) harr⟩
/-- A reader of a text, at a place of it. -/
def RdAt (w0 W : World) (g : Nat) (A0 : Option Addr) (c0 : Nat) (b : List Int) (i : Int) : Prop := W.heap[g]? = some (.cells #[.slice A0 b.length c0, .int .i64 i] 70 (0, 0)) ∧ w0.heap.size ≤ g ∧ Kd.C (Kd.int .u8) w0 A0 b.length b ∧ Below w0.heap.size w0 W
theorem RdAt.set {w0 W : World} {g : Nat} {A0 : Option Addr} {c0 : Nat} {b : List Int} {i : Int} (h : RdAt w0 W g A0 c0 b i) (i' : Int) : RdAt w0 (W.setCell ⟨g, 1, none⟩ (.int .i64 i')) g A0 c0 b i' := ⟨blk_put h.1 1 _ rfl, h.2.1, h.2.2.1, below_set h.2.2.2 h.2.1⟩
theorem RdAt.below {w0 W W1 : World} {g : Nat} {A0 : Option Addr} {c0 : Nat} {b : List Int} {i : Int} (h : RdAt w0 W g A0 c0 b i) {B : Nat} (hb : Below B W W1) (hg : g < B) : RdAt w0 W1 g A0 c0 b i := ⟨(hb.block g hg).trans h.1, h.2.1, h.2.2.1, h.2.2.2.trans (hb.mono (by have := h.2.1; omega))⟩
theorem keep_more {w W W1 : World} {g : Nat} (h : KeepBut w W g none) (hb : Below w.heap.size W W1) : KeepBut w W1 g none := ⟨Nat.le_trans h.1 hb.size, fun i hi hg hr => (hb.block i hi).trans (h.2 i hi hg hr)⟩
set_option maxHeartbeats 4000000 in
theorem now_same (g : Nat) (A0 : Option Addr) (c0 : Nat) (b : List Int) (i : Int) (w0 w : World) (h : RdAt w0 w g A0 c0 b i) (h0 : 0 ≤ i) :
    Calls Tryd.prog 52 #[.pointer (some ⟨g, 0, none⟩)] w fun e w' => e = .returned (.int .u8 (nowP b i)) ∧ ∃ m, w' = w.drewN m := by
  obtain ⟨hg, _, hr0, hbel⟩ := h
  have hr := Kd.C_below hr0 hbel
  clear hr0 hbel
  have hc0 := blk_cell hg 0
  have hc1 := blk_cell hg 1
  simp only [List.getElem?_toArray, List.getElem?_cons_zero, List.getElem?_cons_succ] at hc0 hc1
  unfold nowP
  by_cases c2 : i ≥ (b.length : Int)
  · rw [if_pos c2]
    have c2b0 : decide ((b.length : Int) ≤ i) = true := decide_eq_true c2
    clear c2 hr hg h0
    go_enter Tryd.func52, Tryd.ntmps52
    go_wp2
    repeat (go_quiet (fail); try go_wp2)
    go_ret
    exact ⟨rfl, _, rfl⟩
  · rw [if_neg c2]
    have c2b0 : decide ((b.length : Int) ≤ i) = false := decide_eq_false c2
    obtain ⟨ad, e, hx⟩ := Kd.at_int hr i h0 (by omega)
    cases e
    have p101 : (0 ≤ i) = True := eq_true h0
    have q101 : (i < (b.length : Int)) = True := eq_true (by omega)
    clear c2 hr hg h0
    go_enter Tryd.func52, Tryd.ntmps52
    go_wp2
    repeat (go_quiet (fail); try go_wp2)
    go_ret
    exact ⟨rfl, _, World.drewN_drewN _ _ _⟩
set_option maxHeartbeats 4000000 in
theorem digit_same (c : Int) (w : World) : Calls Tryd.prog 53 #[.int .u8 c] w fun e w' => e = .returned (.bool (decide (48 ≤ c) && decide (c ≤ 57))) ∧ w' = w := by
  by_cases h : 48 ≤ c
  · have h1 : decide (48 ≤ c) = true := decide_eq_true h
    go_enter Tryd.func53, Tryd.ntmps53
    go_wp2
    repeat (go_quiet (fail); try go_wp2)
    go_ret
    exact ⟨by simp [h1], rfl⟩
  · have h1 : decide (48 ≤ c) = false := decide_eq_false h
    go_enter Tryd.func53, Tryd.ntmps53
    go_wp2
    repeat (go_quiet (fail); try go_wp2)
    go_ret
    exact ⟨by simp [h1], rfl⟩
/-- The frame: what the run knows of it, and the rest by a function. -/
def mkAct (g : Nat) (v4 : Value) (n d : Int) (mi : Bool) (t : Nat → Value) : Act := { tmps := #[.pointer (some ⟨g, 0, none⟩), t 1, t 2, t 3, v4, .int .i64 n, .int .i64 d, .bool mi, t 8, t 9, t 10, t 11, t 12, t 13, t 14, t 15, t 16, t 17, t 18, t 19, t 20, t 21, t 22, t 23, t 24, t 25, t 26, t 27, t 28, t 29, t 30, t 31, t 32, t 33, t 34, t 35, t 36, t 37, t 38, t 39, t 40, t 41, t 42, t 43, t 44, t 45, t 46, t 47, t 48, t 49, t 50, t 51, t 52, t 53, t 54, t 55, t 56, t 57, t 58, t 59, t 60, t 61, t 62, t 63, t 64, t 65, t 66, t 67, t 68, t 69, t 70, t 71, t 72, t 73, t 74, t 75, t 76, t 77, t 78, t 79, t 80, t 81, t 82, t 83, t 84, t 85, t 86, t 87, t 88, t 89, t 90, t 91, t 92, t 93, t 94, t 95, t 96, t 97, t 98, t 99, t 100, t 101, t 102, t 103], defers := [] }
/-- Between two jumps. -/
def LineJ (w0 w : World) (g : Nat) (A0 : Option Addr) (c0 : Nat) (b : List Int) (res : List Int × Bool × Int) (m lab : Nat) (a : Act) (W : World) : Prop :=
  ∃ (i n d : Int) (mi : Bool) (v4 : Value) (l : List Int), a = mkAct g v4 n d mi (fun k => a.tmps.getD k undef) ∧ Hid (RdAt w0 W g A0 c0 b i) ∧ Hid (KeepBut w W g none) ∧ Hid (Kd.R (Kd.int .i64) 3 W w.heap.size (fun _ => True) v4 l) ∧ 0 ≤ i ∧ i ≤ (b.length : Int) ∧
    ((lab = 3 ∧ 0 ≤ d ∧ d ≤ 12 ∧ (l.length : Int) + d ≤ i ∧ 0 ≤ n ∧ n < 10 ^ d.toNat) ∨ (lab < 3 ∧ (l.length : Int) ≤ i)) ∧ Hid (mach b m lab i n d mi l = some res)

/-- From a label on. -/
def Pass (P : Program) (c : Code) (J : Nat → Nat → Act → World → Prop) (Q : Exit → Act → World → Prop) (l : Nat) : Prop := ∀ m a w, J m l a w → ∃ rest, findLabel c l = some (Code.skip.seq rest) ∧ rest.wp P (Jumps (fun l' a' w' => ∃ m', m' < m ∧ J m' l' a' w') Q) a w
theorem wp_scope_four {P : Program} {a : Act} {w : World} {Q : Exit → Act → World → Prop} {c : Code} (J : Nat → Nat → Act → World → Prop) (hl : ∀ m l a w, J m l a w → l = 3 ∨ l < 3)
    (p2 : Pass P c J Q 2) (p1 : Pass P c J Q 2 → Pass P c J Q 1) (p3 : Pass P c J Q 3) (p0 : Pass P c J Q 3 → Pass P c J Q 0) (first : Pass P c J Q 0 → c.wp P (Jumps (fun l a w => ∃ m, J m l a w) Q) a w) : (Code.scope c).wp P Q a w := by
  have go : ∀ l, Pass P c J Q l → ∀ m a w, J m l a w → ∃ rest, findLabel c l = some rest ∧ rest.wp P (Jumps (fun l' a' w' => ∃ m', m' < m ∧ J m' l' a' w') Q) a w := fun l h m a w hj => by
    obtain ⟨r, hr, hw⟩ := h m a w hj
    exact ⟨_, hr, wp_seq (wp_skip hw)⟩
  refine wp_scope_labels J (first (p0 p3)) (fun m l a w h => ?_)
  rcases hl m l a w h with rfl | hlt
  · exact go _ p3 m a w h
  · match l, hlt, h with
    | 0, _, h => exact go _ (p0 p3) m a w h
    | 1, _, h => exact go _ (p1 p2) m a w h
    | 2, _, h => exact go _ p2 m a w h
theorem now_lt {b : List Int} {i c : Int} (h : nowP b i = c) (hc : c ≠ 10) : i < (b.length : Int) := by
  unfold nowP at h
  by_cases hi : i ≥ (b.length : Int)
  · rw [if_pos hi] at h; exact absurd h.symm hc
  · omega
theorem RdAt.drewN {w0 W : World} {g : Nat} {A0 : Option Addr} {c0 : Nat} {b : List Int} {i : Int} (h : RdAt w0 W g A0 c0 b i) (m : Nat) : RdAt w0 (W.drewN m) g A0 c0 b i := ⟨h.1, h.2.1, h.2.2.1, pw_below_drewN h.2.2.2 m⟩
theorem ten_pow (d : Nat) : (10 : Int) ^ (d + 1) = 10 * 10 ^ d := by rw [Int.pow_succ, Int.mul_comm]
theorem ten_bd {n d : Int} (h0 : 0 ≤ d) (h : d ≤ 12) (hn : n < 10 ^ d.toNat) : n < 1000000000000 := by
  have hk : ∀ k : Nat, k ≤ 12 → (10 : Int) ^ k ≤ 1000000000000 := by decide
  have := hk d.toNat (by omega)
  omega
theorem ten_step {n d x : Int} (h0 : 0 ≤ d) (hn : n < 10 ^ d.toNat) (hx : x ≤ 9) : 10 * n + x < 10 ^ (d + 1).toNat := by
  have e : (d + 1).toNat = d.toNat + 1 := by omega
  rw [e, ten_pow]
  omega
theorem jumps_le {J : Nat → Nat → Act → World → Prop} {Q : Exit → Act → World → Prop} {m m1 : Nat} (hm : m1 ≤ m) (e : Exit) (a : Act) (w : World) (h : Jumps (fun l' a' w' => ∃ m', m' < m1 ∧ J m' l' a' w') Q e a w) : Jumps (fun l' a' w' => ∃ m', m' < m ∧ J m' l' a' w') Q e a w := by
  cases e with
  | goto l => obtain ⟨m', hlt, hj⟩ := h; exact ⟨m', by omega, hj⟩
  | normal => exact h
  | exit id => exact h
  | ret => exact h
  | panic ch => exact h
  | outgrown => exact h
theorem pass_use {P : Program} {c rest : Code} {J : Nat → Nat → Act → World → Prop} {Q : Exit → Act → World → Prop} {l m m1 : Nat} {a : Act} {w : World} (h : Pass P c J Q l) (hj : J m l a w) (hf : findLabel c l = some (Code.skip.seq rest)) (hm : m ≤ m1) :
    rest.wp P (Jumps (fun l' a' w' => ∃ m', m' < m1 ∧ J m' l' a' w') Q) a w := by
  obtain ⟨r, hr, h⟩ := h m a w hj
  have e := Option.some.inj (hr.symm.trans hf)
  injection e with _ e
  subst e
  exact Code.wp_mono (jumps_le hm) h
theorem pass_first {P : Program} {c rest : Code} {J : Nat → Nat → Act → World → Prop} {Q : Exit → Act → World → Prop} {l m : Nat} {a : Act} {w : World} (h : Pass P c J Q l) (hj : J m l a w) (hf : findLabel c l = some (Code.skip.seq rest)) :
    rest.wp P (Jumps (fun l' a' w' => ∃ m', J m' l' a' w') Q) a w := by
  obtain ⟨r, hr, h⟩ := h m a w hj
  have e := Option.some.inj (hr.symm.trans hf)
  injection e with _ e
  subst e
  refine Code.wp_mono (fun e a w h => ?_) h
  cases e with
  | goto l => obtain ⟨m', _, hj⟩ := h; exact ⟨m', hj⟩
  | normal => exact h
  | exit id => exact h
  | ret => exact h
  | panic ch => exact h
  | outgrown => exact h
set_option maxHeartbeats 4000000 in
set_option maxRecDepth 100000 in
theorem line_calls (g : Nat) (A0 : Option Addr) (c0 : Nat) (b : List Int) (i : Int) (m : Nat) (l : List Int) (ok : Bool) (i' : Int) (w0 w : World) (hrd : RdAt w0 w g A0 c0 b i) (h0 : 0 ≤ i) (h1 : i ≤ (b.length : Int)) (hb : b.length ≤ 4096) (hm : mach b m 0 i 0 0 false [] = some (l, ok, i')) :
    Calls Tryd.prog 41 #[.pointer (some ⟨g, 0, none⟩)] w fun e w' => ∃ v : Value, e = .returned (.tuple #[v, .bool ok]) ∧ Kd.R (Kd.int .i64) 3 w' w.heap.size (fun _ => True) v l ∧ RdAt w0 w' g A0 c0 b i' ∧ KeepBut w w' g none := by
  have hgw : g < w.heap.size := blk_lt hrd.1
  go_enter Tryd.func41, Tryd.ntmps41
  go_wp2
  refine wp_scope_four (LineJ w0 w g A0 c0 b (l, ok, i')) ?hl ?p2 ?p1 ?p3 ?p0 ?first
  case hl =>
    rintro m l a w ⟨i, n, d, mi, v4, l, hfr, HRD, HK, HR, hi0, hi1, hlab, HM⟩
    rcases hlab with ⟨h, _⟩ | ⟨h, _⟩
    · exact .inl h
    · exact .inr h
  case p2 =>
    rintro m a W ⟨i, n, d, mi, v4, l1, hfr, HRD, HK, HR, hi0, hi1, hlab, HM⟩
    refine ⟨_, rfl, ?_⟩
    generalize (fun k => a.tmps.getD k undef) = t at hfr
    subst hfr
    unfold mkAct
    cases m with
    | zero => exact absurd HM.out (by simp [mach])
    | succ m =>
      have hmm := HM.out
      simp only [mach, Nat.reduceEqDiff, if_false, Option.some.injEq, Prod.mk.injEq] at hmm
      obtain ⟨rfl, rfl, rfl⟩ := hmm
      have hc1 := blk_cell HRD.out.1 1
      have hf1 := blk_frozen HRD.out.1 1
      simp only [List.getElem?_toArray, List.getElem?_cons_zero, List.getElem?_cons_succ] at hc1
      have hi2 : i + 1 ≤ 5000 := by omega
      clear hm hrd hlab HM
      go_wp2
      simp only [Jumps]
      refine bodyPost_ret (results_tmp2 rfl _ _ _) rfl ?_
      refine ⟨_, rfl, Kd.R_set HR.out HRD.out.1 (by decide) 1 _, HRD.out.set _, HK.out.set_ 1 _⟩
  case p1 =>
    intro P2
    rintro m a W ⟨i, n, d, mi, v4, l1, hfr, HRD, HK, HR, hi0, hi1, hlab, HM⟩
    refine ⟨_, rfl, ?_⟩
    generalize (fun k => a.tmps.getD k undef) = t at hfr
    subst hfr
    unfold mkAct
    have hll : (l1.length : Int) ≤ i := by rcases hlab with ⟨h, _⟩ | ⟨_, h⟩ <;> omega
    cases m with
    | zero => exact absurd HM.out (by simp [mach])
    | succ m =>
      have HN := hidI (now_same g A0 c0 b i w0 W HRD.out hi0)
      have hmm := HM.out
      simp only [mach, Nat.reduceEqDiff, if_false, if_true] at hmm
      obtain ⟨c, hc⟩ : ∃ c, nowP b i = c := ⟨_, rfl⟩
      rw [hc] at hmm HN
      have hc1 := blk_cell HRD.out.1 1
      have hf1 := blk_frozen HRD.out.1 1
      simp only [List.getElem?_toArray, List.getElem?_cons_zero, List.getElem?_cons_succ] at hc1
      by_cases h10 : c = 10
      · have hb1 : (c != 10) = false := by simp [h10]
        rw [if_neg (by simp [h10])] at hmm
        have HMM := hidI hmm
        have HP2 := hidI P2
        clear hmm HM hc hm hrd hlab P2
        go_wp2_with (refine HN.out.mono ?_; rintro e w1 ⟨rfl, m1, rfl⟩)
        go_step3
        go_step
        go_step
        refine pass_use HP2.out (m := m) ?_ rfl (Nat.le_succ m)
        exact ⟨i, n, d, mi, v4, l1, rfl, hidI (HRD.out.drewN _), hidI (keep_drewN HK.out _), hidI (Kd.R_drewN HR.out _), hi0, hi1, .inr ⟨by decide, hll⟩, HMM⟩
      · have hb1 : (c != 10) = true := bne_iff_ne.mpr h10
        rw [if_pos h10] at hmm
        have hlt := now_lt hc h10
        have HMM := hidI hmm
        clear hmm HM hc hm hrd hlab P2
        go_wp2_with (refine HN.out.mono ?_; rintro e w1 ⟨rfl, m1, rfl⟩)
        go_step3
        exact ⟨m, Nat.lt_succ_self m, i + 1, n, d, mi, v4, l1, rfl, hidI ((HRD.out.drewN _).set _), hidI ((keep_drewN HK.out _).set_ 1 _), hidI (Kd.R_set (Kd.R_drewN HR.out _) (blk_drewN HRD.out.1 _) (by decide) 1 _), by omega, by omega, .inr ⟨by decide, by omega⟩, HMM⟩
  case p3 =>
    rintro m a W ⟨i, n, d, mi, v4, l1, hfr, HRD, HK, HR, hi0, hi1, hlab, HM⟩
    refine ⟨_, rfl, ?_⟩
    generalize (fun k => a.tmps.getD k undef) = t at hfr
    subst hfr
    unfold mkAct
    obtain ⟨hd0, hd12, hli, hn0, hn1⟩ : 0 ≤ d ∧ d ≤ 12 ∧ (l1.length : Int) + d ≤ i ∧ 0 ≤ n ∧ n < 10 ^ d.toNat := by rcases hlab with ⟨_, h⟩ | ⟨h, _⟩; exact h; exact absurd h (by decide)
    have hn2 := ten_bd hd0 hd12 hn1
    cases m with
    | zero => exact absurd HM.out (by simp [mach])
    | succ m =>
      have HN := hidI (now_same g A0 c0 b i w0 W HRD.out hi0)
      have HN2 := hidI (fun q => now_same g A0 c0 b i w0 (W.drewN q) (HRD.out.drewN q) hi0)
      have hmm := HM.out
      simp only [mach, Nat.reduceEqDiff, if_false, if_true] at hmm
      obtain ⟨c, hc⟩ : ∃ c, nowP b i = c := ⟨_, rfl⟩
      rw [hc] at hmm HN
      simp only [hc] at HN2
      have hc1 := blk_cell HRD.out.1 1
      have hf1 := blk_frozen HRD.out.1 1
      simp only [List.getElem?_toArray, List.getElem?_cons_zero, List.getElem?_cons_succ] at hc1
      have HTP := hidI hn1
      clear hn1
      by_cases hA : (48 ≤ c ∧ c ≤ 57) ∧ d < 12
      · rw [if_pos hA] at hmm
        have HMM := hidI hmm
        have hlt := now_lt hc (by omega)
        have HD : Hid (∀ W, Calls Tryd.prog 53 #[.int .u8 c] W fun e w' => e = .returned (.bool true) ∧ w' = W) := hidI (fun W => by have := digit_same c W; rwa [show (decide (48 ≤ c) && decide (c ≤ 57)) = true by simp [hA.1.1, hA.1.2]] at this)
        obtain ⟨⟨hA1, hA2⟩, hA3⟩ := hA
        have hb12 : decide (d < 12) = true := decide_eq_true hA3
        clear hmm HM hc hm hrd hlab
        go_wp2_with (first | (refine HN.out.mono ?_; rintro e w1 ⟨rfl, m1, rfl⟩) | (refine (HN2.out _).mono ?_; rintro e w1 ⟨rfl, m2, rfl⟩) | (refine (HD.out _).mono ?_; rintro e w1 ⟨rfl, rfl⟩))
        go_step3
        refine ⟨m, Nat.lt_succ_self m, i + 1, _, d + 1, mi, v4, l1, rfl, hidI ((HRD.out.drewN _).set _), hidI ((keep_drewN HK.out _).set_ 1 _), hidI (Kd.R_set (Kd.R_drewN HR.out _) (blk_drewN HRD.out.1 _) (by decide) 1 _), by omega, by omega, .inl ⟨rfl, by omega, by omega, by omega, ?_, ?_⟩, ?_⟩
        · omega
        · exact ten_step hd0 HTP.out (by omega)
        · exact HMM
      · rw [if_neg hA] at hmm
        have HD : Hid (∀ W, Calls Tryd.prog 53 #[.int .u8 c] W fun e w' => e = .returned (.bool (decide (48 ≤ c) && decide (c ≤ 57))) ∧ w' = W) := hidI (fun W => digit_same c W)
        by_cases hout : d = 0 ∨ (c ≠ 32 ∧ c ≠ 35 ∧ c ≠ 10)
        · rw [if_pos hout] at hmm
          simp only [Option.some.injEq, Prod.mk.injEq] at hmm
          obtain ⟨rfl, rfl, rfl⟩ := hmm
          by_cases hdg : 48 ≤ c ∧ c ≤ 57
          · have hdd : ¬ d < 12 := fun h => hA ⟨hdg, h⟩
            have HD1 : Hid (∀ W, Calls Tryd.prog 53 #[.int .u8 c] W fun e w' => e = .returned (.bool true) ∧ w' = W) := hidI (fun W => by have := digit_same c W; rwa [show (decide (48 ≤ c) && decide (c ≤ 57)) = true by simp [hdg.1, hdg.2]] at this)
            have hb12 : decide (d < 12) = false := decide_eq_false hdd
            have hz : (d == 0) = false := beq_eq_false_iff_ne.mpr (by omega)
            have k1 : (c != 32) = true := bne_iff_ne.mpr (by omega)
            have k2 : (c != 35) = true := bne_iff_ne.mpr (by omega)
            have k3 : (c != 10) = true := bne_iff_ne.mpr (by omega)
            clear hout hdg hdd hA HD HM hc hm hrd hlab
            go_wp2_with (first | (refine HN.out.mono ?_; rintro e w1 ⟨rfl, m1, rfl⟩) | (refine (HN2.out _).mono ?_; rintro e w1 ⟨rfl, m2, rfl⟩) | (refine (HD1.out _).mono ?_; rintro e w1 ⟨rfl, rfl⟩))
            simp only [Jumps]
            refine bodyPost_ret (results_tmp2 rfl _ _ _) rfl ?_
            exact ⟨_, rfl, Kd.R_nil _ _ _ _ _, HRD.out.drewN _, keep_drewN HK.out _⟩
          · have HD1 : Hid (∀ W, Calls Tryd.prog 53 #[.int .u8 c] W fun e w' => e = .returned (.bool false) ∧ w' = W) := hidI (fun W => by have := digit_same c W; rwa [show (decide (48 ≤ c) && decide (c ≤ 57)) = false by rw [← Bool.decide_and]; exact decide_eq_false hdg] at this)
            by_cases hz0 : d = 0
            · have hz : (d == 0) = true := beq_iff_eq.mpr hz0
              clear hout hdg hA HD HM hc hm hrd hlab hz0
              go_wp2_with (first | (refine HN.out.mono ?_; rintro e w1 ⟨rfl, m1, rfl⟩) | (refine (HN2.out _).mono ?_; rintro e w1 ⟨rfl, m2, rfl⟩) | (refine (HD1.out _).mono ?_; rintro e w1 ⟨rfl, rfl⟩))
              simp only [Jumps]
              refine bodyPost_ret (results_tmp2 rfl _ _ _) rfl ?_
              exact ⟨_, rfl, Kd.R_nil _ _ _ _ _, HRD.out.drewN _, keep_drewN HK.out _⟩
            · have hz : (d == 0) = false := beq_eq_false_iff_ne.mpr hz0
              obtain ⟨g1, g2, g3⟩ := hout.resolve_left hz0
              have k1 : (c != 32) = true := bne_iff_ne.mpr g1
              have k2 : (c != 35) = true := bne_iff_ne.mpr g2
              have k3 : (c != 10) = true := bne_iff_ne.mpr g3
              clear hout hdg hA HD HM hc hm hrd hlab hz0 g1 g2 g3
              go_wp2_with (first | (refine HN.out.mono ?_; rintro e w1 ⟨rfl, m1, rfl⟩) | (refine (HN2.out _).mono ?_; rintro e w1 ⟨rfl, m2, rfl⟩) | (refine (HD1.out _).mono ?_; rintro e w1 ⟨rfl, rfl⟩))
              simp only [Jumps]
              refine bodyPost_ret (results_tmp2 rfl _ _ _) rfl ?_
              exact ⟨_, rfl, Kd.R_nil _ _ _ _ _, HRD.out.drewN _, keep_drewN HK.out _⟩
        · rw [if_neg hout] at hmm
          have hd1 : d ≠ 0 := fun h => hout (.inl h)
          have hor : c = 32 ∨ c = 35 ∨ c = 10 := by
            by_cases e1 : c = 32
            · exact .inl e1
            by_cases e2 : c = 35
            · exact .inr (.inl e2)
            by_cases e3 : c = 10
            · exact .inr (.inr e3)
            exact absurd (.inr ⟨e1, e2, e3⟩) hout
          have HD1 : Hid (∀ W, Calls Tryd.prog 53 #[.int .u8 c] W fun e w' => e = .returned (.bool false) ∧ w' = W) := hidI (fun W => by have := digit_same c W; rwa [show (decide (48 ≤ c) && decide (c ≤ 57)) = false by rw [← Bool.decide_and]; exact decide_eq_false (by omega)] at this)
          have hz : (d == 0) = false := beq_eq_false_iff_ne.mpr hd1
          have hll : l1.length ≤ 5000 := by omega
          have hlx : (l1.length : Int) + 1 ≤ i := by omega
          have HMM := hidI hmm
          clear hmm hout HD HM hc hm hrd hlab hA
          cases mi with
          | true =>
            simp only [if_true] at HMM
            rcases hor with rfl | rfl | rfl
            all_goals
              go_wp2_with (first | (refine HN.out.mono ?_; rintro e w1 ⟨rfl, m1, rfl⟩) | (refine (HN2.out _).mono ?_; rintro e w1 ⟨rfl, m2, rfl⟩) | (refine (HD1.out _).mono ?_; rintro e w1 ⟨rfl, rfl⟩) | ((with_reducible refine gate_builtin (b := .append) (xs := #[.tmp 82, .tmp 84]) rfl ?_); at_builtin; refine Kd.R_append (Kd.int .i64) (w0 := W) w.heap.size rfl (.tmp 82) (.tmp 84) 36 3 (.int .i64 0) 8 rfl Tryd.underlying36 info3 rfl (by decide) (by omega) v4 l1 (-n) [.int .i64 (-n)] (fun _ => True) (fun _ => False) rfl rfl ?aP (fun _ hk => hk.elim) ?aF ?aO ?aB ?aS ?aL ?_; (case aP => exact rfl); (case aB => exact (by repeat (first | exact Below.refl _ _ | apply pw_below_drewN))); (case aF => exact (fun _ _ => trivial)); (case aO => exact Kd.R_drewN HR.out _); (case aS => have := HK.out.1; simpa using this); (case aL => omega); intro v9 w9 ho9 hb9 hg9 hat9; clear hg9 hat9))
              go_step3
              exact ⟨m, Nat.lt_succ_self m, i, -n, d, true, v9, l1 ++ [-n], rfl, hidI (HRD.out.below hb9 hgw), hidI (keep_more HK.out hb9), hidI ho9, hi0, hi1, .inr ⟨by decide, by simp; omega⟩, HMM⟩
          | false =>
            simp only [Bool.false_eq_true, if_false] at HMM
            rcases hor with rfl | rfl | rfl
            all_goals
              go_wp2_with (first | (refine HN.out.mono ?_; rintro e w1 ⟨rfl, m1, rfl⟩) | (refine (HN2.out _).mono ?_; rintro e w1 ⟨rfl, m2, rfl⟩) | (refine (HD1.out _).mono ?_; rintro e w1 ⟨rfl, rfl⟩) | ((with_reducible refine gate_builtin (b := .append) (xs := #[.tmp 82, .tmp 84]) rfl ?_); at_builtin; refine Kd.R_append (Kd.int .i64) (w0 := W) w.heap.size rfl (.tmp 82) (.tmp 84) 36 3 (.int .i64 0) 8 rfl Tryd.underlying36 info3 rfl (by decide) (by omega) v4 l1 n [.int .i64 n] (fun _ => True) (fun _ => False) rfl rfl ?aP (fun _ hk => hk.elim) ?aF ?aO ?aB ?aS ?aL ?_; (case aP => exact rfl); (case aB => exact (by repeat (first | exact Below.refl _ _ | apply pw_below_drewN))); (case aF => exact (fun _ _ => trivial)); (case aO => exact Kd.R_drewN HR.out _); (case aS => have := HK.out.1; simpa using this); (case aL => omega); intro v9 w9 ho9 hb9 hg9 hat9; clear hg9 hat9))
              go_step3
              exact ⟨m, Nat.lt_succ_self m, i, n, d, false, v9, l1 ++ [n], rfl, hidI (HRD.out.below hb9 hgw), hidI (keep_more HK.out hb9), hidI ho9, hi0, hi1, .inr ⟨by decide, by simp; omega⟩, HMM⟩
  case p0 =>
    intro P3
    rintro m a W ⟨i, n, d, mi, v4, l1, hfr, HRD, HK, HR, hi0, hi1, hlab, HM⟩
    refine ⟨_, rfl, ?_⟩
    generalize (fun k => a.tmps.getD k undef) = t at hfr
    subst hfr
    unfold mkAct
    have hll : (l1.length : Int) ≤ i := by rcases hlab with ⟨h, _⟩ | ⟨_, h⟩ <;> omega
    cases m with
    | zero => exact absurd HM.out (by simp [mach])
    | succ m =>
      have HN := hidI (now_same g A0 c0 b i w0 W HRD.out hi0)
      have HN2 := hidI (fun q => now_same g A0 c0 b i w0 (W.drewN q) (HRD.out.drewN q) hi0)
      have hmm := HM.out
      simp only [mach, if_true] at hmm
      obtain ⟨c, hc⟩ : ∃ c, nowP b i = c := ⟨_, rfl⟩
      rw [hc] at hmm HN
      simp only [hc] at HN2
      have hc1 := blk_cell HRD.out.1 1
      have hf1 := blk_frozen HRD.out.1 1
      simp only [List.getElem?_toArray, List.getElem?_cons_zero, List.getElem?_cons_succ] at hc1
      have HP3 := hidI P3
      clear P3
      by_cases e32 : c = 32
      · rw [if_pos e32] at hmm
        have hlt := now_lt hc (by omega)
        have HMM := hidI hmm
        clear hmm HM hc hm hrd hlab
        subst e32
        go_wp2_with (first | (refine HN.out.mono ?_; rintro e w1 ⟨rfl, m1, rfl⟩) | (refine (HN2.out _).mono ?_; rintro e w1 ⟨rfl, m2, rfl⟩))
        go_step3
        exact ⟨m, Nat.lt_succ_self m, i + 1, n, d, mi, v4, l1, rfl, hidI ((HRD.out.drewN _).set _), hidI ((keep_drewN HK.out _).set_ 1 _), hidI (Kd.R_set (Kd.R_drewN HR.out _) (blk_drewN HRD.out.1 _) (by decide) 1 _), by omega, by omega, .inr ⟨by decide, by omega⟩, HMM⟩
      rw [if_neg e32] at hmm
      by_cases e35 : c = 35
      · rw [if_pos e35] at hmm
        have HMM := hidI hmm
        clear hmm HM hc hm hrd hlab e32
        subst e35
        go_wp2_with (first | (refine HN.out.mono ?_; rintro e w1 ⟨rfl, m1, rfl⟩) | (refine (HN2.out _).mono ?_; rintro e w1 ⟨rfl, m2, rfl⟩))
        go_step3
        exact ⟨m, Nat.lt_succ_self m, i, n, d, mi, v4, l1, rfl, hidI (HRD.out.drewN _), hidI (keep_drewN HK.out _), hidI (Kd.R_drewN HR.out _), hi0, hi1, .inr ⟨by decide, hll⟩, HMM⟩
      rw [if_neg e35] at hmm
      by_cases e10 : c = 10
      · rw [if_pos e10] at hmm
        have HMM := hidI hmm
        clear hmm HM hc hm hrd hlab e32 e35
        subst e10
        go_wp2_with (first | (refine HN.out.mono ?_; rintro e w1 ⟨rfl, m1, rfl⟩) | (refine (HN2.out _).mono ?_; rintro e w1 ⟨rfl, m2, rfl⟩))
        go_step3
        exact ⟨m, Nat.lt_succ_self m, i, n, d, mi, v4, l1, rfl, hidI (HRD.out.drewN _), hidI (keep_drewN HK.out _), hidI (Kd.R_drewN HR.out _), hi0, hi1, .inr ⟨by decide, hll⟩, HMM⟩
      rw [if_neg e10] at hmm
      have hlt := now_lt hc e10
      have k1 : (c == 32) = false := beq_eq_false_iff_ne.mpr e32
      have k2 : (c == 35) = false := beq_eq_false_iff_ne.mpr e35
      have k3 : (c == 10) = false := beq_eq_false_iff_ne.mpr e10
      by_cases e45 : c = 45
      · rw [if_pos e45, show (c == 45) = true from beq_iff_eq.mpr e45] at hmm
        have HMM := hidI hmm
        clear hmm HM hc hm hrd hlab e32 e35 e10 k1 k2 k3
        subst e45
        go_wp2_with (first | (refine HN.out.mono ?_; rintro e w1 ⟨rfl, m1, rfl⟩) | (refine (HN2.out _).mono ?_; rintro e w1 ⟨rfl, m2, rfl⟩))
        go_step3
        go_step
        go_step
        refine pass_use HP3.out (m := m) ?_ rfl (Nat.le_succ m)
        exact ⟨i + 1, 0, 0, true, v4, l1, rfl, hidI ((HRD.out.drewN _).set _), hidI ((keep_drewN HK.out _).set_ 1 _), hidI (Kd.R_set (Kd.R_drewN HR.out _) (blk_drewN HRD.out.1 _) (by decide) 1 _), by omega, by omega, .inl ⟨rfl, by decide, by decide, by omega, by decide, by decide⟩, HMM⟩
      · rw [if_neg e45, show (c == 45) = false from beq_eq_false_iff_ne.mpr e45] at hmm
        have k4 : (c == 45) = false := beq_eq_false_iff_ne.mpr e45
        have HMM := hidI hmm
        clear hmm HM hc hm hrd hlab e32 e35 e10 e45
        go_wp2_with (first | (refine HN.out.mono ?_; rintro e w1 ⟨rfl, m1, rfl⟩) | (refine (HN2.out _).mono ?_; rintro e w1 ⟨rfl, m2, rfl⟩))
        go_step3
        go_step
        go_step
        refine pass_use HP3.out (m := m) ?_ rfl (Nat.le_succ m)
        exact ⟨i, 0, 0, false, v4, l1, rfl, hidI (HRD.out.drewN _), hidI (keep_drewN HK.out _), hidI (Kd.R_drewN HR.out _), by omega, by omega, .inl ⟨rfl, by decide, by decide, by omega, by decide, by decide⟩, HMM⟩
  case first =>
    intro P0
    have HP0 := hidI P0
    clear P0
    have HRD := hidI hrd
    have HM := hidI hm
    clear hrd hm
    go_wp2
    go_step3
    go_step
    go_step
    refine pass_first HP0.out (m := m) ?_ rfl
    exact ⟨i, 0, 0, false, .slice none 0 0, [], rfl, HRD, hidI (KeepBut.refl _ _ _), hidI (Kd.R_nil _ _ _ _ _), h0, h1, .inr ⟨by decide, by simpa using h0⟩, HM⟩

/-! ### scan_Lines: function 23, BY HAND -/
open Go.Proofs.YtdkhajgfifaibaaDoor.Scan in
def scan_Lines.f (b : List Int) : Option (List (List Int) × Int) := if (b.length : Int) > 4096 then some ([], 6) else some (match textF b with | some r => (r, 0) | none => ([], 2))
open Go.Proofs.YtdkhajgfifaibaaDoor.Scan in
theorem line_yes (g : Nat) (A0 : Option Addr) (c0 : Nat) (b : List Int) (i : Nat) (w0 w : World) (hrd : RdAt w0 w g A0 c0 b i) (h1 : i ≤ b.length) (hb : b.length ≤ 4096) (res : List Int) (hl : lineF (upto (b.drop i)) = some res) :
    Calls Tryd.prog 41 #[.pointer (some ⟨g, 0, none⟩)] w fun e w' => ∃ v : Value, e = .returned (.tuple #[v, .bool true]) ∧ Kd.R (Kd.int .i64) 3 w' w.heap.size (fun _ => True) v res ∧ RdAt w0 w' g A0 c0 b ((i : Int) + (upto (b.drop i)).length + 1) ∧ KeepBut w w' g none := by
  have h := (mach_line b (b.drop i).length i rfl (3 * (b.drop i).length + 4) (Nat.le_refl _)).1 0 0 false []
  unfold lineF at hl
  rw [hl] at h
  exact line_calls g A0 c0 b i _ res true _ w0 w hrd (by omega) (by omega) hb h
open Go.Proofs.YtdkhajgfifaibaaDoor.Scan in
theorem line_no (g : Nat) (A0 : Option Addr) (c0 : Nat) (b : List Int) (i : Nat) (w0 w : World) (hrd : RdAt w0 w g A0 c0 b i) (h1 : i ≤ b.length) (hb : b.length ≤ 4096) (hl : lineF (upto (b.drop i)) = none) :
    Calls Tryd.prog 41 #[.pointer (some ⟨g, 0, none⟩)] w fun e w' => ∃ v : Value, e = .returned (.tuple #[v, .bool false]) ∧ Kd.R (Kd.int .i64) 3 w' w.heap.size (fun _ => True) v [] ∧ Below w0.heap.size w0 w' := by
  have h := (mach_line b (b.drop i).length i rfl (3 * (b.drop i).length + 4) (Nat.le_refl _)).1 0 0 false []
  unfold lineF at hl
  rw [hl] at h
  obtain ⟨i', h, _⟩ := h
  exact (line_calls g A0 c0 b i _ [] false _ w0 w hrd (by omega) (by omega) hb h).mono fun e w' ⟨v, he, hr, hd, hk⟩ => ⟨v, he, hr, hd.2.2.2⟩
set_option maxHeartbeats 4000000 in
set_option maxRecDepth 100000 in
open Go.Proofs.YtdkhajgfifaibaaDoor.Scan in
theorem scan_Lines.calls (A0 : Option Addr) (c0 : Nat) (l0 : List Int) (r1 : List (List Int)) (r2 : Int) (w : World) (hr0 : Kd.C (Kd.int .u8) w A0 l0.length l0) (hc0 : l0.length ≤ c0) (h : scan_Lines.f l0 = some (r1, r2)) :
    Calls Tryd.prog 23 #[.slice A0 l0.length c0] w fun e w' => ∃ v0_ : Value, e = .returned (.tuple #[v0_, .int .i64 r2]) ∧ Kd.S (Kd.slice 3 (Kd.int .i64)) 36 w' w.heap.size (fun _ => True) v0_ r1 ∧ Below w.heap.size w w' := by
  have HR0 := hidI hr0
  have HC0 := hidI hc0
  clear hr0 hc0
  unfold scan_Lines.f at h
  by_cases c2 : (l0.length : Int) > 4096
  · rw [if_pos c2] at h
    simp only [Option.some.injEq, Prod.mk.injEq] at h
    obtain ⟨rfl, rfl⟩ := h
    have c2b0 : decide (4096 < (l0.length : Int)) = true := decide_eq_true c2
    have c2b1 : decide (4096 < l0.length) = true := decide_eq_true (by omega)
    clear c2
    go_enter Tryd.func23, Tryd.ntmps23
    go_wp2
    go_ret2
    exact ⟨_, rfl, Kd.S_nil _ _ _ _ _, Below.refl _ _⟩
  · rw [if_neg c2] at h
    have H := hidI (Option.some.inj h)
    have c2b0 : decide (4096 < (l0.length : Int)) = false := decide_eq_false c2
    have c2b1 : decide (4096 < l0.length) = false := decide_eq_false (by omega)
    clear c2 h
    go_enter Tryd.func23, Tryd.ntmps23
    go_wp2
    go_loopg [4] (l0.length + 2) (fun kq v4 wr => ∃ (acc : List (List Int)) (i : Nat), Hid (kq = l0.length + 2 - i) ∧ i ≤ l0.length + 1 ∧ Hid (RdAt w wr w.heap.size A0 c0 l0 i) ∧ Hid (Kd.S (Kd.slice 3 (Kd.int .i64)) 36 wr w.heap.size (fun _ => True) v4 acc) ∧ acc.length ≤ i ∧ Hid (textF l0 = (textF (l0.drop i)).map fun x => acc ++ x))
    case atStart => exact ⟨[], 0, hidI rfl, by omega, hidI ⟨by show (w.heap.push _)[w.heap.size]? = _; simp, Nat.le_refl _, HR0.out, below_alloc (Below.refl _ _) _⟩, hidI (Kd.S_nil _ _ _ _ _), by simp, hidI (by simp)⟩
    case round =>
      obtain ⟨acc, i, HI, hi1, HD, HS, hacc, HE⟩ := hrel
      have hlen : l0.length ≤ 4096 := by have := of_decide_eq_false c2b1; omega
      by_cases hlt : i < l0.length
      · have hc1 := blk_cell HD.out.1 1
        simp only [List.getElem?_toArray, List.getElem?_cons_zero, List.getElem?_cons_succ] at hc1
        have t1 : decide ((i : Int) < (l0.length : Int)) = true := decide_eq_true (by omega)
        have t1n : decide (i < l0.length) = true := decide_eq_true (by omega)
        have hnext := textF_next l0 i
        have hq := upto_len (l0.drop i)
        simp only [List.length_drop] at hq
        cases hl : lineF (upto (l0.drop i)) with
        | none =>
          have HLN := hidI (line_no w.heap.size A0 c0 l0 i w wr HD.out (by omega) hlen hl)
          rw [hl] at hnext
          have he := HE.out
          rw [hnext] at he
          have h := H.out
          rw [he] at h
          simp only [Option.bind_none, Option.map_none, Prod.mk.injEq] at h
          obtain ⟨rfl, rfl⟩ := h
          clear hnext hl he HE hlt H hq
          go_wp2_with (refine HLN.out.mono ?_; rintro e w1 ⟨v, rfl, hR, hB⟩; have HR := hidI hR; have HB := hidI hB; clear hR hB; obtain ⟨A1, c1, rfl⟩ := Kd.R_slice HR.out)
          go_ret2
          exact ⟨_, rfl, Kd.S_nil _ _ _ _ _, HB.out⟩
        | some res =>
          have HLN := hidI (line_yes w.heap.size A0 c0 l0 i w wr HD.out (by omega) hlen res hl)
          rw [hl] at hnext
          have he := HE.out
          rw [hnext] at he
          simp only [Option.bind_some, Option.map_map] at he
          generalize hqq : (upto (l0.drop i)).length = q at *
          have hq2 : i + q ≤ l0.length := by omega
          have HSB := hidI (Kd.S_mono (Kd.S_bound (Kd.S_types HS.out HD.out.1 (by decide))) (fun k hk => (⟨hk.1.2, hk.2.2.1⟩ : k ≠ w.heap.size ∧ k < wr.heap.size)))
          have hwr : w.heap.size ≤ wr.heap.size := HD.out.2.2.2.size
          have HWR := hidI hwr
          clear hwr
          by_cases h0 : res = []
          · subst h0
            have t2 : decide (0 < (([] : List Int).length : Int)) = false := by simp
            have HE2 := hidI (show textF l0 = (textF (l0.drop (i + q + 1))).map fun x => acc ++ x from he)
            clear hnext hl he HE hlt hqq
            go_wp2_with (refine HLN.out.mono ?_; rintro e w1 ⟨v, rfl, hR, hD, hK⟩; have HR := hidI hR; have HD1 := hidI hD; have HK := hidI hK; clear hR hD hK; obtain ⟨A1, c1, rfl⟩ := Kd.R_slice HR.out)
            go_roundg (l0.length + 2 - (i + q + 1))
            case measure => have := HI.out; omega
            case rel => exact ⟨acc, i + q + 1, hidI rfl, by omega, hidI (by have := HD1.out; simpa using this), hidI (Kd.S_mono (Kd.S_keep HSB.out HK.out (fun _ h => h.1)) (fun _ _ => trivial)), by omega, HE2⟩
          · have t2 : decide (0 < (res.length : Int)) = true := decide_eq_true (by have := List.length_pos_iff.mpr h0; omega)
            have t2n : decide (0 < res.length) = true := decide_eq_true (by have := List.length_pos_iff.mpr h0; omega)
            have HE2 := hidI (show textF l0 = (textF (l0.drop (i + q + 1))).map fun x => (acc ++ [res]) ++ x by
              rw [he]; congr 1; funext x; simp [h0])
            clear hnext hl he HE hlt hqq h0
            go_wp2_with (first | (go_at_call 41; refine HLN.out.mono ?_; rintro e w1 ⟨v, rfl, hR, hD, hK⟩; have HR := hidI hR; have HD1 := hidI hD; have HK := hidI hK; clear hR hD hK; obtain ⟨A1, c1, rfl⟩ := Kd.R_slice HR.out; have HS1 := hidI (Kd.S_mono (ok' := fun k => True ∧ ¬ some k = (Value.slice A1 res.length c1).ownBlock) (Kd.S_keep HSB.out HK.out (fun _ h => h.1)) (fun k hk => ⟨trivial, fun e => absurd (Kd.R_base HR.out k e.symm) (by have := hk.2; omega)⟩)); have HRT := hidI (Kd.R_mono (Kd.R_tight rfl (Kd.R_lower HR.out HWR.out)) (fun _ h => h))) | ((with_reducible refine gate_builtin (b := .append) (xs := #[.tmp 31, .tmp 33]) rfl ?_); at_builtin; go_loud (refine Kd.S_append (Kd.slice 3 (Kd.int .i64)) (w0 := w) w.heap.size rfl (.tmp 31) (.tmp 33) 22 36 (.slice none 0 0) 24 rfl Tryd.underlying22 info36 rfl (by decide) (by omega) u4 acc res [.slice A1 res.length c1] (fun _ => True) (fun k_ => some k_ = (.slice A1 res.length c1 : Value).ownBlock) rfl rfl ?aP ?aK ?aF ?aO ?aB ?aS ?aL ?_; (case aP => exact Kd.M_row HRT.out); (case aK => exact (fun k hk => ⟨trivial, fun e => absurd (Kd.S_lt HS.out k e.symm) (by have := Kd.R_base HR.out k hk.symm; omega)⟩)); (case aF => exact (fun _ _ => trivial)); (case aO => exact HS1.out); (case aB => exact HD1.out.2.2.2); (case aS => exact HD1.out.2.2.2.size); (case aL => omega); intro v9 w9 ho9 hb9 hg9 hat9; have HO9 := hidI ho9; have HB9 := hidI hb9; have HG9 := hidI hg9; clear ho9 hb9 hg9 hat9)))
            go_roundg (l0.length + 2 - (i + q + 1))
            case measure => have := HI.out; omega
            case rel => exact ⟨acc ++ [res], i + q + 1, hidI rfl, by omega, hidI ⟨(blk_grown HD1.out.1 HG9.out (Kd.S_ne HS.out HD.out.1 (by decide))).trans (by simp), Nat.le_refl _, HD1.out.2.2.1, HB9.out⟩, HO9, by simp; omega, HE2⟩
      · have hc1 := blk_cell HD.out.1 1
        simp only [List.getElem?_toArray, List.getElem?_cons_zero, List.getElem?_cons_succ] at hc1
        have t1 : decide ((i : Int) < (l0.length : Int)) = false := decide_eq_false (by omega)
        have t1n : decide (i < l0.length) = false := decide_eq_false (by omega)
        have he := HE.out
        rw [List.drop_eq_nil_of_le (by omega), textF_nil] at he
        have h := H.out
        rw [he] at h
        simp only [Option.map_some, List.append_nil, Prod.mk.injEq] at h
        obtain ⟨rfl, rfl⟩ := h
        clear he HE hlt H
        go_wp2
        go_ret2
        exact ⟨_, rfl, HS.out, HD.out.2.2.2⟩

-- NOT PRINTED: function 45 (slices_IndexFunc_int_int_45)

/-! ### slices_ContainsFunc_int_int_32: function 32, BY HAND -/
/-- Is a line not of six numbers? -/
def slices_ContainsFunc_int_int_32.f (l0 : List (List Int)) (a1 : Int) : Option Bool := some (l0.any fun l => l.length != 6)
theorem odd_same (A : Option Addr) (n c : Nat) (w : World) : Calls Tryd.prog 31 #[.slice A n c] w fun e w' => e = .returned (.bool (n != 6)) ∧ w' = w := by
  by_cases h : n = 6
  · subst h
    go_enter Tryd.func31, Tryd.ntmps31
    go_wp2
    go_ret
    exact ⟨rfl, rfl⟩
  · have h1 : (n != 6) = true := bne_iff_ne.mpr h
    have h2 : ((n : Int) != 6) = true := bne_iff_ne.mpr (by omega)
    go_enter Tryd.func31, Tryd.ntmps31
    go_wp2
    go_ret
    exact ⟨by simp [h1], rfl⟩
theorem hidQ {p : Prop} (h : p) : Hid p := h
theorem rd_L_at {l : List (List Int)} {i : Nat} (h : i < l.length) : rd_L1 l (i : Int) = l[i] := by unfold rd_L1; simp [List.getD, List.getElem?_eq_getElem h]
set_option maxHeartbeats 4000000 in
theorem index_func (A0 : Option Addr) (c0 : Nat) (l0 : List (List Int)) (w : World) (hr0 : Kd.C (Kd.slice 3 (Kd.int .i64)) w A0 l0.length l0) :
    Calls Tryd.prog 45 #[.slice A0 l0.length c0, .func (.func 31) #[] #[]] w fun e w' => ∃ i : Int, e = .returned (.int .i64 i) ∧ (decide (0 ≤ i) = l0.any fun l => l.length != 6) ∧ w' = w := by
  have hmax0 := Kd.C_max hr0
  have HR0 := hidQ hr0
  clear hr0
  go_enter Tryd.func45, Tryd.ntmps45
  go_wp2
  go_loopg [8] (l0.length + 1) (fun kq v8 wr => ∃ (i : Nat), Hid (kq = l0.length + 1 - i) ∧ v8 = .int .i64 (i : Int) ∧ i ≤ l0.length ∧ Hid (wr = w) ∧ Hid (((l0.take i).any fun l => l.length != 6) = false))
  case atStart => exact ⟨0, hidQ rfl, rfl, by omega, hidQ rfl, hidQ rfl⟩
  case round =>
    obtain ⟨i, HI, rfl, hi, HW, HA⟩ := hrel
    have hw := HW.out
    subst hw
    by_cases hlt : i < l0.length
    · have t1 : decide ((i : Int) < (l0.length : Int)) = true := decide_eq_true (by omega)
      have t1n : decide (i < l0.length) = true := decide_eq_true (by omega)
      obtain ⟨ad, A1, c1, e1, hx1, hl1, hi1⟩ := at_L1 HR0.out (i : Int) (by omega) (by omega)
      cases e1
      have p1 : (0 ≤ (i : Int)) = True := eq_true (by omega)
      have q1 : ((i : Int) < (l0.length : Int)) = True := eq_true (by omega)
      rw [rd_L_at hlt] at hx1
      rw [Int.toNat_natCast] at hx1
      obtain ⟨n, hn⟩ : ∃ n, n = l0[i].length := ⟨_, rfl⟩
      rw [← hn] at hx1
      clear hl1 hi1
      by_cases h6 : n = 6
      · have g1 : (n != 6) = false := by rw [h6]; rfl
        have HNX : Hid (((l0.take (i + 1)).any fun l => l.length != 6) = false) := hidQ (by
          rw [List.take_succ_eq_append_getElem hlt, List.any_append, HA.out]
          simp only [List.any_cons, List.any_nil, ← hn, g1]; rfl)
        clear hn h6
        go_wp2_with (go_at_call 31; (with_reducible refine (odd_same _ _ _ _).mono ?_); rintro e w1 ⟨rfl, rfl⟩)
        go_roundg (l0.length + 1 - (i + 1))
        case measure => have := HI.out; omega
        case rel => exact ⟨i + 1, hidQ rfl, by go_num, by omega, hidQ rfl, HNX⟩
      · have g1 : (n != 6) = true := bne_iff_ne.mpr h6
        have HNX : Hid ((l0.any fun l => l.length != 6) = true) := hidQ (by
          rw [List.any_eq_true]
          exact ⟨l0[i], List.getElem_mem hlt, by rw [← hn]; exact g1⟩)
        clear hn h6
        go_wp2_with (go_at_call 31; (with_reducible refine (odd_same _ _ _ _).mono ?_); rintro e w1 ⟨rfl, rfl⟩)
        go_ret
        exact ⟨_, rfl, by rw [HNX.out]; exact decide_eq_true (by omega), rfl⟩
    · have t1 : decide ((i : Int) < (l0.length : Int)) = false := decide_eq_false (by omega)
      have t1n : decide (i < l0.length) = false := decide_eq_false (by omega)
      have HNX : Hid ((l0.any fun l => l.length != 6) = false) := hidQ (by have := HA.out; rwa [List.take_of_length_le (by omega)] at this)
      go_wp2
      go_ret
      exact ⟨_, rfl, by rw [HNX.out]; rfl, rfl⟩
set_option maxHeartbeats 4000000 in
theorem slices_ContainsFunc_int_int_32.calls (A0 : Option Addr) (c0 : Nat) (l0 : List (List Int)) (a1 : Int) (r : Bool) (w : World) (hr0 : Kd.C (Kd.slice 3 (Kd.int .i64)) w A0 l0.length l0) (hc0 : l0.length ≤ c0) (h : slices_ContainsFunc_int_int_32.f l0 a1 = some r) :
    Calls Tryd.prog 32 #[.slice A0 l0.length c0, .func (.func 31) #[] #[]] w fun e w' => e = .returned (.bool r) ∧ Below w.heap.size w w' := by
  have HR0 := hidQ hr0
  have H := hidQ (Option.some.inj h)
  clear hr0 hc0 h
  go_enter Tryd.func32, Tryd.ntmps32
  go_wp2_with (go_at_call 45; (with_reducible refine (index_func _ _ l0 _ HR0.out).mono ?_); rintro e w1 ⟨i, rfl, hd, rfl⟩; have HD := hidQ hd; clear hd)
  go_ret
  exact ⟨by have := HD.out; rw [H.out] at this; simp [this], Below.refl _ _⟩

/-! ### inst_stop: function 33, BY HAND -/
def inst_stop.f (l : List Int) : Option (Int × Int × Int × Int × Int × Int) := if l.length = 6 then some (rd l 0, rd l 1, rd l 2, rd l 3, rd l 4, rd l 5) else none
theorem inst_stop.array (ad : Addr) (c : Nat) (W : World) : (Instr.arrayAt 77 (.slice (some ad) 6 c)).run Tryd.prog W = .ok (.pointer (some ad)) W := by
  unfold Instr.arrayAt
  go_simp
set_option maxHeartbeats 8000000 in
set_option maxRecDepth 100000 in
theorem inst_stop.calls (A0 : Option Addr) (c0 : Nat) (l0 : List Int) (r1 r2 r3 r4 r5 r6 : Int) (w : World) (hr0 : Kd.C (Kd.int .i64) w A0 l0.length l0) (hc0 : l0.length ≤ c0) (h : inst_stop.f l0 = some (r1, r2, r3, r4, r5, r6)) :
    Calls Tryd.prog 33 #[.slice A0 l0.length c0] w fun e w' => e = .returned (.agg #[.int .i64 r1, .int .i64 r2, .int .i64 r3, .int .i64 r4, .int .i64 r5, .int .i64 r6]) ∧ Below w.heap.size w w' := by
  unfold inst_stop.f at h
  split at h
  case isFalse => cases h
  case isTrue hl =>
    simp only [Option.some.injEq, Prod.mk.injEq] at h
    obtain ⟨rfl, rfl, rfl, rfl, rfl, rfl⟩ := h
    obtain ⟨ad, ea, hx0⟩ := Kd.at_int hr0 0 (by omega) (by omega)
    obtain ⟨ad1, ea1, hx1⟩ := Kd.at_int hr0 1 (by omega) (by omega)
    obtain ⟨ad2, ea2, hx2⟩ := Kd.at_int hr0 2 (by omega) (by omega)
    obtain ⟨ad3, ea3, hx3⟩ := Kd.at_int hr0 3 (by omega) (by omega)
    obtain ⟨ad4, ea4, hx4⟩ := Kd.at_int hr0 4 (by omega) (by omega)
    obtain ⟨ad5, ea5, hx5⟩ := Kd.at_int hr0 5 (by omega) (by omega)
    cases ea
    cases ea1
    cases ea2
    cases ea3
    cases ea4
    cases ea5
    rw [hl]
    simp only [show (0 : Int).toNat = 0 from rfl, show (1 : Int).toNat = 1 from rfl, show (2 : Int).toNat = 2 from rfl, show (3 : Int).toNat = 3 from rfl, show (4 : Int).toNat = 4 from rfl, show (5 : Int).toNat = 5 from rfl, Addr.add_zero'] at hx0 hx1 hx2 hx3 hx4 hx5
    simp only [Nat.reduceEqDiff, Go.Addr.add, ↓reduceIte] at hx1 hx2 hx3 hx4 hx5
    have hsa := fun W => inst_stop.array ad c0 W
    generalize rd l0 0 = a0 at *
    generalize rd l0 1 = a1 at *
    generalize rd l0 2 = a2 at *
    generalize rd l0 3 = a3 at *
    generalize rd l0 4 = a4 at *
    generalize rd l0 5 = a5 at *
    replace hx0 : ∀ o, (w.alloc o).cell? ad = some (.int .i64 a0) := fun o => ((below_alloc (Below.refl w.heap.size w) o).cell (World.block_lt_of_cell? w _ hx0)).trans hx0
    replace hx1 : ∀ o, (w.alloc o).cell? { block := ad.block, off := ad.off + 1 } = some (.int .i64 a1) := fun o => ((below_alloc (Below.refl w.heap.size w) o).cell (World.block_lt_of_cell? w _ hx1)).trans hx1
    replace hx2 : ∀ o, (w.alloc o).cell? { block := ad.block, off := ad.off + 2 } = some (.int .i64 a2) := fun o => ((below_alloc (Below.refl w.heap.size w) o).cell (World.block_lt_of_cell? w _ hx2)).trans hx2
    replace hx3 : ∀ o, (w.alloc o).cell? { block := ad.block, off := ad.off + 3 } = some (.int .i64 a3) := fun o => ((below_alloc (Below.refl w.heap.size w) o).cell (World.block_lt_of_cell? w _ hx3)).trans hx3
    replace hx4 : ∀ o, (w.alloc o).cell? { block := ad.block, off := ad.off + 4 } = some (.int .i64 a4) := fun o => ((below_alloc (Below.refl w.heap.size w) o).cell (World.block_lt_of_cell? w _ hx4)).trans hx4
    replace hx5 : ∀ o, (w.alloc o).cell? { block := ad.block, off := ad.off + 5 } = some (.int .i64 a5) := fun o => ((below_alloc (Below.refl w.heap.size w) o).cell (World.block_lt_of_cell? w _ hx5)).trans hx5
    clear hl hr0 hc0
    go_enter Tryd.func33, Tryd.ntmps33
    go_wp2
    refine bodyPost_ret (v := .agg #[.int .i64 a0, .int .i64 a1, .int .i64 a2, .int .i64 a3, .int .i64 a4, .int .i64 a5]) ?_ rfl ⟨rfl, ?_⟩
    · (simp only [results, Tryd.results33]; go_simp)
    · exact below_alloc (below_alloc (Below.refl _ _) _) _

end Go.Proofs.YtdkhajgfifaibaaDoor.PA
