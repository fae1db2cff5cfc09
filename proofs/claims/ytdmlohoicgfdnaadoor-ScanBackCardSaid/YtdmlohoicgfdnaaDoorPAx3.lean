-- Printed for this claim by wip/tools/xprint.py over the kit's print; the contracts marked BY HAND are this session's own.
import Derived.Test.YtdmlohoicgfdnaaDoorPAx0
namespace Go.Proofs.YtdmlohoicgfdnaaDoor.PA
open Go.RowKit Go.Proofs.YtdmlohoicgfdnaaDoorW.PrintWords Go.Proofs.YtdmlohoicgfdnaaDoorW.PrintLast Go.Proofs.YtdmlohoicgfdnaaDoorW.PrintMore
attribute [local go_sem] max2_int min2_int max_two min_two max_three min_three max_four min_four   -- for this text's walks alone
set_option linter.unusedVariables false
set_option linter.unusedSimpArgs false

/-! ### scan_reader_line: function 21, BY HAND -/
open Go.Proofs.YtdmlohoicgfdnaaDoor.Scan
theorem hidI {p : Prop} (h : p) : Hid p := h
/-- Jumps to any label of the scope. -/
def Jumps (J : Nat → Act → World → Prop) (Q : Exit → Act → World → Prop) : Exit → Act → World → Prop
  | .goto l, a, w => J l a w
  | e, a, w => Q e a w
theorem wp_scope_labels {P : Program} {a : Act} {w : World} {Q : Exit → Act → World → Prop} {c : Code} (J : Nat → Nat → Act → World → Prop)
    (first : c.wp P (Jumps (fun l a w => ∃ m, J m l a w) Q) a w)
    (pass : ∀ m l a w, J m l a w → ∃ rest, findLabel c l = some rest ∧ rest.wp P (Jumps (fun l' a' w' => ∃ m', m' < m ∧ J m' l' a' w') Q) a w) : (Code.scope c).wp P Q a w := by
  intro b k cs
  have key : ∀ n l a w, J n l a w → ∃ rest, findLabel c l = some rest ∧ ∃ e a' w', Q e a' w' ∧ Arrives P (lone (b.at a (.code rest :: .inScope c :: k)) cs w) b k cs e a' w' := by
    intro n
    induction n using Nat.strongRecOn with
    | _ n ih =>
      intro l a w hJ
      obtain ⟨rest, hf, hr⟩ := pass n l a w hJ
      refine ⟨rest, hf, ?_⟩
      obtain ⟨e, a₁, w₁, hq, harr⟩ := hr b (.inScope c :: k) cs
      cases e with
      | normal => exact ⟨.normal, a₁, w₁, hq, Steps.trans harr (.one step_inScope)⟩
      | exit id => exact ⟨.exit id, a₁, w₁, hq, fun k' hk => harr k' (by simp [exitTo, hk])⟩
      | goto l' =>
        obtain ⟨m', hlt, hJ'⟩ := hq
        obtain ⟨rest', hf', e₂, a₂, w₂, hq₂, harr₂⟩ := ih m' hlt l' a₁ w₁ hJ'
        have hg : gotoIn l' (.inScope c :: k) = some (.code rest' :: .inScope c :: k) := by simp [gotoIn, hf']
        exact ⟨e₂, a₂, w₂, hq₂, .of_steps (harr _ hg) harr₂⟩
      | ret => exact ⟨_, a₁, w₁, hq, harr⟩
      | panic ch => exact ⟨_, a₁, w₁, hq, harr⟩
      | outgrown => exact ⟨_, a₁, w₁, hq, harr⟩
  obtain ⟨e, a₁, w₁, hq, harr⟩ := first b (.inScope c :: k) cs
  cases e with
  | normal => exact ⟨.normal, a₁, w₁, hq, .head step_scope (Steps.trans harr (.one step_inScope))⟩
  | exit id => exact ⟨.exit id, a₁, w₁, hq, fun k' hk => .head step_scope (harr k' (by simp [exitTo, hk]))⟩
  | goto l' =>
    obtain ⟨m', hJ'⟩ := hq
    obtain ⟨rest', hf', e₂, a₂, w₂, hq₂, harr₂⟩ := key m' l' a₁ w₁ hJ'
    have hg : gotoIn l' (.inScope c :: k) = some (.code rest' :: .inScope c :: k) := by simp [gotoIn, hf']
    exact ⟨e₂, a₂, w₂, hq₂, .of_steps (.head step_scope (harr _ hg)) harr₂⟩
  | ret => exact ⟨_, a₁, w₁, hq, .of_steps (.one step_scope) harr⟩
  | panic ch => exact ⟨_, a₁, w₁, hq, .of_steps (.one step_scope) harr⟩
  | outgrown => exact ⟨_, a₁, w₁, hq, .of_steps (.one step_scope) harr⟩
/-- A reader of a text, at a place of it. -/
def RdAt (w0 W : World) (g : Nat) (A0 : Option Addr) (c0 : Nat) (b : List Int) (i : Int) : Prop := W.heap[g]? = some (.cells #[.slice A0 b.length c0, .int .i64 i] 43 (0, 0)) ∧ w0.heap.size ≤ g ∧ Kd.C (Kd.int .u8) w0 A0 b.length b ∧ Below w0.heap.size w0 W
theorem RdAt.set {w0 W : World} {g : Nat} {A0 : Option Addr} {c0 : Nat} {b : List Int} {i : Int} (h : RdAt w0 W g A0 c0 b i) (i' : Int) : RdAt w0 (W.setCell ⟨g, 1, none⟩ (.int .i64 i')) g A0 c0 b i' := ⟨blk_put h.1 1 _ rfl, h.2.1, h.2.2.1, below_set h.2.2.2 h.2.1⟩
theorem RdAt.below {w0 W W1 : World} {g : Nat} {A0 : Option Addr} {c0 : Nat} {b : List Int} {i : Int} (h : RdAt w0 W g A0 c0 b i) {B : Nat} (hb : Below B W W1) (hg : g < B) : RdAt w0 W1 g A0 c0 b i := ⟨(hb.block g hg).trans h.1, h.2.1, h.2.2.1, h.2.2.2.trans (hb.mono (by have := h.2.1; omega))⟩
theorem keep_more {w W W1 : World} {g : Nat} (h : KeepBut w W g none) (hb : Below w.heap.size W W1) : KeepBut w W1 g none := ⟨Nat.le_trans h.1 hb.size, fun i hi hg hr => (hb.block i hi).trans (h.2 i hi hg hr)⟩
set_option maxHeartbeats 4000000 in
theorem now_same (g : Nat) (A0 : Option Addr) (c0 : Nat) (b : List Int) (i : Int) (w0 w : World) (h : RdAt w0 w g A0 c0 b i) (h0 : 0 ≤ i) :
    Calls Tryd.prog 25 #[.pointer (some ⟨g, 0, none⟩)] w fun e w' => e = .returned (.int .u8 (nowP b i)) ∧ ∃ m, w' = w.drewN m := by
  obtain ⟨hg, _, hr0, hbel⟩ := h
  have hr := Kd.C_below hr0 hbel
  clear hr0 hbel
  have hc0 := blk_cell hg 0
  have hc1 := blk_cell hg 1
  simp only [List.getElem?_toArray, List.getElem?_cons_zero, List.getElem?_cons_succ] at hc0 hc1
  unfold nowP
  by_cases c2 : i ≥ (b.length : Int)
  · rw [if_pos c2]
    have c2b0 : decide ((b.length : Int) ≤ i) = true := decide_eq_true c2
    clear c2 hr hg h0
    go_enter Tryd.func25, Tryd.ntmps25
    go_wp2
    repeat (go_quiet (fail); try go_wp2)
    go_ret
    exact ⟨rfl, _, rfl⟩
  · rw [if_neg c2]
    have c2b0 : decide ((b.length : Int) ≤ i) = false := decide_eq_false c2
    obtain ⟨ad, e, hx⟩ := Kd.at_int hr i h0 (by omega)
    cases e
    have p101 : (0 ≤ i) = True := eq_true h0
    have q101 : (i < (b.length : Int)) = True := eq_true (by omega)
    clear c2 hr hg h0
    go_enter Tryd.func25, Tryd.ntmps25
    go_wp2
    repeat (go_quiet (fail); try go_wp2)
    go_ret
    exact ⟨rfl, _, World.drewN_drewN _ _ _⟩
set_option maxHeartbeats 4000000 in
theorem digit_same (c : Int) (w : World) : Calls Tryd.prog 26 #[.int .u8 c] w fun e w' => e = .returned (.bool (decide (48 ≤ c) && decide (c ≤ 57))) ∧ w' = w := by
  by_cases h : 48 ≤ c
  · have h1 : decide (48 ≤ c) = true := decide_eq_true h
    go_enter Tryd.func26, Tryd.ntmps26
    go_wp2
    repeat (go_quiet (fail); try go_wp2)
    go_ret
    exact ⟨by simp [h1], rfl⟩
  · have h1 : decide (48 ≤ c) = false := decide_eq_false h
    go_enter Tryd.func26, Tryd.ntmps26
    go_wp2
    repeat (go_quiet (fail); try go_wp2)
    go_ret
    exact ⟨by simp [h1], rfl⟩
/-- The frame: what the run knows of it, and the rest by a function. -/
def mkAct (g : Nat) (v4 : Value) (n d : Int) (mi : Bool) (t : Nat → Value) : Act := { tmps := #[.pointer (some ⟨g, 0, none⟩), t 1, t 2, t 3, v4, .int .i64 n, .int .i64 d, .bool mi, t 8, t 9, t 10, t 11, t 12, t 13, t 14, t 15, t 16, t 17, t 18, t 19, t 20, t 21, t 22, t 23, t 24, t 25, t 26, t 27, t 28, t 29, t 30, t 31, t 32, t 33, t 34, t 35, t 36, t 37, t 38, t 39, t 40, t 41, t 42, t 43, t 44, t 45, t 46, t 47, t 48, t 49, t 50, t 51, t 52, t 53, t 54, t 55, t 56, t 57, t 58, t 59, t 60, t 61, t 62, t 63, t 64, t 65, t 66, t 67, t 68, t 69, t 70, t 71, t 72, t 73, t 74, t 75, t 76, t 77, t 78, t 79, t 80, t 81, t 82, t 83, t 84, t 85, t 86, t 87, t 88, t 89, t 90, t 91, t 92, t 93, t 94, t 95, t 96, t 97, t 98, t 99, t 100, t 101, t 102, t 103], defers := [] }
/-- Between two jumps. -/
def LineJ (w0 w : World) (g : Nat) (A0 : Option Addr) (c0 : Nat) (b : List Int) (res : List Int × Bool × Int) (m lab : Nat) (a : Act) (W : World) : Prop :=
  ∃ (i n d : Int) (mi : Bool) (v4 : Value) (l : List Int), a = mkAct g v4 n d mi (fun k => a.tmps.getD k undef) ∧ Hid (RdAt w0 W g A0 c0 b i) ∧ Hid (KeepBut w W g none) ∧ Hid (Kd.R (Kd.int .i64) 3 W w.heap.size (fun _ => True) v4 l) ∧ 0 ≤ i ∧ i ≤ (b.length : Int) ∧
    ((lab = 3 ∧ 0 ≤ d ∧ d ≤ 12 ∧ (l.length : Int) + d ≤ i ∧ 0 ≤ n ∧ n < 10 ^ d.toNat) ∨ (lab < 3 ∧ (l.length : Int) ≤ i)) ∧ Hid (mach b m lab i n d mi l = some res)

/-- From a label on. -/
def Pass (P : Program) (c : Code) (J : Nat → Nat → Act → World → Prop) (Q : Exit → Act → World → Prop) (l : Nat) : Prop := ∀ m a w, J m l a w → ∃ rest, findLabel c l = some (Code.skip.seq rest) ∧ rest.wp P (Jumps (fun l' a' w' => ∃ m', m' < m ∧ J m' l' a' w') Q) a w
theorem wp_scope_four {P : Program} {a : Act} {w : World} {Q : Exit → Act → World → Prop} {c : Code} (J : Nat → Nat → Act → World → Prop) (hl : ∀ m l a w, J m l a w → l = 3 ∨ l < 3)
    (p2 : Pass P c J Q 2) (p1 : Pass P c J Q 2 → Pass P c J Q 1) (p3 : Pass P c J Q 3) (p0 : Pass P c J Q 3 → Pass P c J Q 0) (first : Pass P c J Q 0 → c.wp P (Jumps (fun l a w => ∃ m, J m l a w) Q) a w) : (Code.scope c).wp P Q a w := by
  have go : ∀ l, Pass P c J Q l → ∀ m a w, J m l a w → ∃ rest, findLabel c l = some rest ∧ rest.wp P (Jumps (fun l' a' w' => ∃ m', m' < m ∧ J m' l' a' w') Q) a w := fun l h m a w hj => by
    obtain ⟨r, hr, hw⟩ := h m a w hj
    exact ⟨_, hr, wp_seq (wp_skip hw)⟩
  refine wp_scope_labels J (first (p0 p3)) (fun m l a w h => ?_)
  rcases hl m l a w h with rfl | hlt
  · exact go _ p3 m a w h
  · match l, hlt, h with
    | 0, _, h => exact go _ (p0 p3) m a w h
    | 1, _, h => exact go _ (p1 p2) m a w h
    | 2, _, h => exact go _ p2 m a w h
theorem now_lt {b : List Int} {i c : Int} (h : nowP b i = c) (hc : c ≠ 10) : i < (b.length : Int) := by
  unfold nowP at h
  by_cases hi : i ≥ (b.length : Int)
  · rw [if_pos hi] at h; exact absurd h.symm hc
  · omega
theorem RdAt.drewN {w0 W : World} {g : Nat} {A0 : Option Addr} {c0 : Nat} {b : List Int} {i : Int} (h : RdAt w0 W g A0 c0 b i) (m : Nat) : RdAt w0 (W.drewN m) g A0 c0 b i := ⟨h.1, h.2.1, h.2.2.1, pw_below_drewN h.2.2.2 m⟩
theorem ten_pow (d : Nat) : (10 : Int) ^ (d + 1) = 10 * 10 ^ d := by rw [Int.pow_succ, Int.mul_comm]
theorem ten_bd {n d : Int} (h0 : 0 ≤ d) (h : d ≤ 12) (hn : n < 10 ^ d.toNat) : n < 1000000000000 := by
  have hk : ∀ k : Nat, k ≤ 12 → (10 : Int) ^ k ≤ 1000000000000 := by decide
  have := hk d.toNat (by omega)
  omega
theorem ten_step {n d x : Int} (h0 : 0 ≤ d) (hn : n < 10 ^ d.toNat) (hx : x ≤ 9) : 10 * n + x < 10 ^ (d + 1).toNat := by
  have e : (d + 1).toNat = d.toNat + 1 := by omega
  rw [e, ten_pow]
  omega
theorem jumps_le {J : Nat → Nat → Act → World → Prop} {Q : Exit → Act → World → Prop} {m m1 : Nat} (hm : m1 ≤ m) (e : Exit) (a : Act) (w : World) (h : Jumps (fun l' a' w' => ∃ m', m' < m1 ∧ J m' l' a' w') Q e a w) : Jumps (fun l' a' w' => ∃ m', m' < m ∧ J m' l' a' w') Q e a w := by
  cases e with
  | goto l => obtain ⟨m', hlt, hj⟩ := h; exact ⟨m', by omega, hj⟩
  | normal => exact h
  | exit id => exact h
  | ret => exact h
  | panic ch => exact h
  | outgrown => exact h
theorem pass_use {P : Program} {c rest : Code} {J : Nat → Nat → Act → World → Prop} {Q : Exit → Act → World → Prop} {l m m1 : Nat} {a : Act} {w : World} (h : Pass P c J Q l) (hj : J m l a w) (hf : findLabel c l = some (Code.skip.seq rest)) (hm : m ≤ m1) :
    rest.wp P (Jumps (fun l' a' w' => ∃ m', m' < m1 ∧ J m' l' a' w') Q) a w := by
  obtain ⟨r, hr, h⟩ := h m a w hj
  have e := Option.some.inj (hr.symm.trans hf)
  injection e with _ e
  subst e
  exact Code.wp_mono (jumps_le hm) h
theorem pass_first {P : Program} {c rest : Code} {J : Nat → Nat → Act → World → Prop} {Q : Exit → Act → World → Prop} {l m : Nat} {a : Act} {w : World} (h : Pass P c J Q l) (hj : J m l a w) (hf : findLabel c l = some (Code.skip.seq rest)) :
    rest.wp P (Jumps (fun l' a' w' => ∃ m', J m' l' a' w') Q) a w := by
  obtain ⟨r, hr, h⟩ := h m a w hj
  have e := Option.some.inj (hr.symm.trans hf)
  injection e with _ e
  subst e
  refine Code.wp_mono (fun e a w h => ?_) h
  cases e with
  | goto l => obtain ⟨m', _, hj⟩ := h; exact ⟨m', hj⟩
  | normal => exact h
  | exit id => exact h
  | ret => exact h
  | panic ch => exact h
  | outgrown => exact h
set_option maxHeartbeats 4000000 in
set_option maxRecDepth 100000 in
theorem line_calls (g : Nat) (A0 : Option Addr) (c0 : Nat) (b : List Int) (i : Int) (m : Nat) (l : List Int) (ok : Bool) (i' : Int) (w0 w : World) (hrd : RdAt w0 w g A0 c0 b i) (h0 : 0 ≤ i) (h1 : i ≤ (b.length : Int)) (hb : b.length ≤ 4096) (hm : mach b m 0 i 0 0 false [] = some (l, ok, i')) :
    Calls Tryd.prog 21 #[.pointer (some ⟨g, 0, none⟩)] w fun e w' => ∃ v : Value, e = .returned (.tuple #[v, .bool ok]) ∧ Kd.R (Kd.int .i64) 3 w' w.heap.size (fun _ => True) v l ∧ RdAt w0 w' g A0 c0 b i' ∧ KeepBut w w' g none := by
  have hgw : g < w.heap.size := blk_lt hrd.1
  go_enter Tryd.func21, Tryd.ntmps21
  go_wp2
  refine wp_scope_four (LineJ w0 w g A0 c0 b (l, ok, i')) ?hl ?p2 ?p1 ?p3 ?p0 ?first
  case hl =>
    rintro m l a w ⟨i, n, d, mi, v4, l, hfr, HRD, HK, HR, hi0, hi1, hlab, HM⟩
    rcases hlab with ⟨h, _⟩ | ⟨h, _⟩
    · exact .inl h
    · exact .inr h
  case p2 =>
    rintro m a W ⟨i, n, d, mi, v4, l1, hfr, HRD, HK, HR, hi0, hi1, hlab, HM⟩
    refine ⟨_, rfl, ?_⟩
    generalize (fun k => a.tmps.getD k undef) = t at hfr
    subst hfr
    unfold mkAct
    cases m with
    | zero => exact absurd HM.out (by simp [mach])
    | succ m =>
      have hmm := HM.out
      simp only [mach, Nat.reduceEqDiff, if_false, Option.some.injEq, Prod.mk.injEq] at hmm
      obtain ⟨rfl, rfl, rfl⟩ := hmm
      have hc1 := blk_cell HRD.out.1 1
      have hf1 := blk_frozen HRD.out.1 1
      simp only [List.getElem?_toArray, List.getElem?_cons_zero, List.getElem?_cons_succ] at hc1
      have hi2 : i + 1 ≤ 5000 := by omega
      clear hm hrd hlab HM
      go_wp2
      simp only [Jumps]
      refine bodyPost_ret (results_tmp2 rfl _ _ _) rfl ?_
      refine ⟨_, rfl, Kd.R_set HR.out HRD.out.1 (by decide) 1 _, HRD.out.set _, HK.out.set_ 1 _⟩
  case p1 =>
    intro P2
    rintro m a W ⟨i, n, d, mi, v4, l1, hfr, HRD, HK, HR, hi0, hi1, hlab, HM⟩
    refine ⟨_, rfl, ?_⟩
    generalize (fun k => a.tmps.getD k undef) = t at hfr
    subst hfr
    unfold mkAct
    have hll : (l1.length : Int) ≤ i := by rcases hlab with ⟨h, _⟩ | ⟨_, h⟩ <;> omega
    cases m with
    | zero => exact absurd HM.out (by simp [mach])
    | succ m =>
      have HN := hidI (now_same g A0 c0 b i w0 W HRD.out hi0)
      have hmm := HM.out
      simp only [mach, Nat.reduceEqDiff, if_false, if_true] at hmm
      obtain ⟨c, hc⟩ : ∃ c, nowP b i = c := ⟨_, rfl⟩
      rw [hc] at hmm HN
      have hc1 := blk_cell HRD.out.1 1
      have hf1 := blk_frozen HRD.out.1 1
      simp only [List.getElem?_toArray, List.getElem?_cons_zero, List.getElem?_cons_succ] at hc1
      by_cases h10 : c = 10
      · have hb1 : (c != 10) = false := by simp [h10]
        rw [if_neg (by simp [h10])] at hmm
        have HMM := hidI hmm
        have HP2 := hidI P2
        clear hmm HM hc hm hrd hlab P2
        go_wp2_with (refine HN.out.mono ?_; rintro e w1 ⟨rfl, m1, rfl⟩)
        go_step3
        go_step
        go_step
        refine pass_use HP2.out (m := m) ?_ rfl (Nat.le_succ m)
        exact ⟨i, n, d, mi, v4, l1, rfl, hidI (HRD.out.drewN _), hidI (keep_drewN HK.out _), hidI (Kd.R_drewN HR.out _), hi0, hi1, .inr ⟨by decide, hll⟩, HMM⟩
      · have hb1 : (c != 10) = true := bne_iff_ne.mpr h10
        rw [if_pos h10] at hmm
        have hlt := now_lt hc h10
        have HMM := hidI hmm
        clear hmm HM hc hm hrd hlab P2
        go_wp2_with (refine HN.out.mono ?_; rintro e w1 ⟨rfl, m1, rfl⟩)
        go_step3
        exact ⟨m, Nat.lt_succ_self m, i + 1, n, d, mi, v4, l1, rfl, hidI ((HRD.out.drewN _).set _), hidI ((keep_drewN HK.out _).set_ 1 _), hidI (Kd.R_set (Kd.R_drewN HR.out _) (blk_drewN HRD.out.1 _) (by decide) 1 _), by omega, by omega, .inr ⟨by decide, by omega⟩, HMM⟩
  case p3 =>
    rintro m a W ⟨i, n, d, mi, v4, l1, hfr, HRD, HK, HR, hi0, hi1, hlab, HM⟩
    refine ⟨_, rfl, ?_⟩
    generalize (fun k => a.tmps.getD k undef) = t at hfr
    subst hfr
    unfold mkAct
    obtain ⟨hd0, hd12, hli, hn0, hn1⟩ : 0 ≤ d ∧ d ≤ 12 ∧ (l1.length : Int) + d ≤ i ∧ 0 ≤ n ∧ n < 10 ^ d.toNat := by rcases hlab with ⟨_, h⟩ | ⟨h, _⟩; exact h; exact absurd h (by decide)
    have hn2 := ten_bd hd0 hd12 hn1
    cases m with
    | zero => exact absurd HM.out (by simp [mach])
    | succ m =>
      have HN := hidI (now_same g A0 c0 b i w0 W HRD.out hi0)
      have HN2 := hidI (fun q => now_same g A0 c0 b i w0 (W.drewN q) (HRD.out.drewN q) hi0)
      have hmm := HM.out
      simp only [mach, Nat.reduceEqDiff, if_false, if_true] at hmm
      obtain ⟨c, hc⟩ : ∃ c, nowP b i = c := ⟨_, rfl⟩
      rw [hc] at hmm HN
      simp only [hc] at HN2
      have hc1 := blk_cell HRD.out.1 1
      have hf1 := blk_frozen HRD.out.1 1
      simp only [List.getElem?_toArray, List.getElem?_cons_zero, List.getElem?_cons_succ] at hc1
      have HTP := hidI hn1
      clear hn1
      by_cases hA : (48 ≤ c ∧ c ≤ 57) ∧ d < 12
      · rw [if_pos hA] at hmm
        have HMM := hidI hmm
        have hlt := now_lt hc (by omega)
        have HD : Hid (∀ W, Calls Tryd.prog 26 #[.int .u8 c] W fun e w' => e = .returned (.bool true) ∧ w' = W) := hidI (fun W => by have := digit_same c W; rwa [show (decide (48 ≤ c) && decide (c ≤ 57)) = true by simp [hA.1.1, hA.1.2]] at this)
        obtain ⟨⟨hA1, hA2⟩, hA3⟩ := hA
        have hb12 : decide (d < 12) = true := decide_eq_true hA3
        clear hmm HM hc hm hrd hlab
        go_wp2_with (first | (refine HN.out.mono ?_; rintro e w1 ⟨rfl, m1, rfl⟩) | (refine (HN2.out _).mono ?_; rintro e w1 ⟨rfl, m2, rfl⟩) | (refine (HD.out _).mono ?_; rintro e w1 ⟨rfl, rfl⟩))
        go_step3
        refine ⟨m, Nat.lt_succ_self m, i + 1, _, d + 1, mi, v4, l1, rfl, hidI ((HRD.out.drewN _).set _), hidI ((keep_drewN HK.out _).set_ 1 _), hidI (Kd.R_set (Kd.R_drewN HR.out _) (blk_drewN HRD.out.1 _) (by decide) 1 _), by omega, by omega, .inl ⟨rfl, by omega, by omega, by omega, ?_, ?_⟩, ?_⟩
        · omega
        · exact ten_step hd0 HTP.out (by omega)
        · exact HMM
      · rw [if_neg hA] at hmm
        have HD : Hid (∀ W, Calls Tryd.prog 26 #[.int .u8 c] W fun e w' => e = .returned (.bool (decide (48 ≤ c) && decide (c ≤ 57))) ∧ w' = W) := hidI (fun W => digit_same c W)
        by_cases hout : d = 0 ∨ (c ≠ 32 ∧ c ≠ 35 ∧ c ≠ 10)
        · rw [if_pos hout] at hmm
          simp only [Option.some.injEq, Prod.mk.injEq] at hmm
          obtain ⟨rfl, rfl, rfl⟩ := hmm
          by_cases hdg : 48 ≤ c ∧ c ≤ 57
          · have hdd : ¬ d < 12 := fun h => hA ⟨hdg, h⟩
            have HD1 : Hid (∀ W, Calls Tryd.prog 26 #[.int .u8 c] W fun e w' => e = .returned (.bool true) ∧ w' = W) := hidI (fun W => by have := digit_same c W; rwa [show (decide (48 ≤ c) && decide (c ≤ 57)) = true by simp [hdg.1, hdg.2]] at this)
            have hb12 : decide (d < 12) = false := decide_eq_false hdd
            have hz : (d == 0) = false := beq_eq_false_iff_ne.mpr (by omega)
            have k1 : (c != 32) = true := bne_iff_ne.mpr (by omega)
            have k2 : (c != 35) = true := bne_iff_ne.mpr (by omega)
            have k3 : (c != 10) = true := bne_iff_ne.mpr (by omega)
            clear hout hdg hdd hA HD HM hc hm hrd hlab
            go_wp2_with (first | (refine HN.out.mono ?_; rintro e w1 ⟨rfl, m1, rfl⟩) | (refine (HN2.out _).mono ?_; rintro e w1 ⟨rfl, m2, rfl⟩) | (refine (HD1.out _).mono ?_; rintro e w1 ⟨rfl, rfl⟩))
            simp only [Jumps]
            refine bodyPost_ret (results_tmp2 rfl _ _ _) rfl ?_
            exact ⟨_, rfl, Kd.R_nil _ _ _ _ _, HRD.out.drewN _, keep_drewN HK.out _⟩
          · have HD1 : Hid (∀ W, Calls Tryd.prog 26 #[.int .u8 c] W fun e w' => e = .returned (.bool false) ∧ w' = W) := hidI (fun W => by have := digit_same c W; rwa [show (decide (48 ≤ c) && decide (c ≤ 57)) = false by rw [← Bool.decide_and]; exact decide_eq_false hdg] at this)
            by_cases hz0 : d = 0
            · have hz : (d == 0) = true := beq_iff_eq.mpr hz0
              clear hout hdg hA HD HM hc hm hrd hlab hz0
              go_wp2_with (first | (refine HN.out.mono ?_; rintro e w1 ⟨rfl, m1, rfl⟩) | (refine (HN2.out _).mono ?_; rintro e w1 ⟨rfl, m2, rfl⟩) | (refine (HD1.out _).mono ?_; rintro e w1 ⟨rfl, rfl⟩))
              simp only [Jumps]
              refine bodyPost_ret (results_tmp2 rfl _ _ _) rfl ?_
              exact ⟨_, rfl, Kd.R_nil _ _ _ _ _, HRD.out.drewN _, keep_drewN HK.out _⟩
            · have hz : (d == 0) = false := beq_eq_false_iff_ne.mpr hz0
              obtain ⟨g1, g2, g3⟩ := hout.resolve_left hz0
              have k1 : (c != 32) = true := bne_iff_ne.mpr g1
              have k2 : (c != 35) = true := bne_iff_ne.mpr g2
              have k3 : (c != 10) = true := bne_iff_ne.mpr g3
              clear hout hdg hA HD HM hc hm hrd hlab hz0 g1 g2 g3
              go_wp2_with (first | (refine HN.out.mono ?_; rintro e w1 ⟨rfl, m1, rfl⟩) | (refine (HN2.out _).mono ?_; rintro e w1 ⟨rfl, m2, rfl⟩) | (refine (HD1.out _).mono ?_; rintro e w1 ⟨rfl, rfl⟩))
              simp only [Jumps]
              refine bodyPost_ret (results_tmp2 rfl _ _ _) rfl ?_
              exact ⟨_, rfl, Kd.R_nil _ _ _ _ _, HRD.out.drewN _, keep_drewN HK.out _⟩
        · rw [if_neg hout] at hmm
          have hd1 : d ≠ 0 := fun h => hout (.inl h)
          have hor : c = 32 ∨ c = 35 ∨ c = 10 := by
            by_cases e1 : c = 32
            · exact .inl e1
            by_cases e2 : c = 35
            · exact .inr (.inl e2)
            by_cases e3 : c = 10
            · exact .inr (.inr e3)
            exact absurd (.inr ⟨e1, e2, e3⟩) hout
          have HD1 : Hid (∀ W, Calls Tryd.prog 26 #[.int .u8 c] W fun e w' => e = .returned (.bool false) ∧ w' = W) := hidI (fun W => by have := digit_same c W; rwa [show (decide (48 ≤ c) && decide (c ≤ 57)) = false by rw [← Bool.decide_and]; exact decide_eq_false (by omega)] at this)
          have hz : (d == 0) = false := beq_eq_false_iff_ne.mpr hd1
          have hll : l1.length ≤ 5000 := by omega
          have hlx : (l1.length : Int) + 1 ≤ i := by omega
          have HMM := hidI hmm
          clear hmm hout HD HM hc hm hrd hlab hA
          cases mi with
          | true =>
            simp only [if_true] at HMM
            rcases hor with rfl | rfl | rfl
            all_goals
              go_wp2_with (first | (refine HN.out.mono ?_; rintro e w1 ⟨rfl, m1, rfl⟩) | (refine (HN2.out _).mono ?_; rintro e w1 ⟨rfl, m2, rfl⟩) | (refine (HD1.out _).mono ?_; rintro e w1 ⟨rfl, rfl⟩) | ((with_reducible refine gate_builtin (b := .append) (xs := #[.tmp 82, .tmp 84]) rfl ?_); at_builtin; refine Kd.R_append (Kd.int .i64) (w0 := W) w.heap.size rfl (.tmp 82) (.tmp 84) 27 3 (.int .i64 0) 8 rfl Tryd.underlying27 info3 rfl (by decide) (by omega) v4 l1 (-n) [.int .i64 (-n)] (fun _ => True) (fun _ => False) rfl rfl ?aP (fun _ hk => hk.elim) ?aF ?aO ?aB ?aS ?aL ?_; (case aP => exact rfl); (case aB => exact (by repeat (first | exact Below.refl _ _ | apply pw_below_drewN))); (case aF => exact (fun _ _ => trivial)); (case aO => exact Kd.R_drewN HR.out _); (case aS => have := HK.out.1; simpa using this); (case aL => omega); intro v9 w9 ho9 hb9 hg9 hat9; clear hg9 hat9))
              go_step3
              exact ⟨m, Nat.lt_succ_self m, i, -n, d, true, v9, l1 ++ [-n], rfl, hidI (HRD.out.below hb9 hgw), hidI (keep_more HK.out hb9), hidI ho9, hi0, hi1, .inr ⟨by decide, by simp; omega⟩, HMM⟩
          | false =>
            simp only [Bool.false_eq_true, if_false] at HMM
            rcases hor with rfl | rfl | rfl
            all_goals
              go_wp2_with (first | (refine HN.out.mono ?_; rintro e w1 ⟨rfl, m1, rfl⟩) | (refine (HN2.out _).mono ?_; rintro e w1 ⟨rfl, m2, rfl⟩) | (refine (HD1.out _).mono ?_; rintro e w1 ⟨rfl, rfl⟩) | ((with_reducible refine gate_builtin (b := .append) (xs := #[.tmp 82, .tmp 84]) rfl ?_); at_builtin; refine Kd.R_append (Kd.int .i64) (w0 := W) w.heap.size rfl (.tmp 82) (.tmp 84) 27 3 (.int .i64 0) 8 rfl Tryd.underlying27 info3 rfl (by decide) (by omega) v4 l1 n [.int .i64 n] (fun _ => True) (fun _ => False) rfl rfl ?aP (fun _ hk => hk.elim) ?aF ?aO ?aB ?aS ?aL ?_; (case aP => exact rfl); (case aB => exact (by repeat (first | exact Below.refl _ _ | apply pw_below_drewN))); (case aF => exact (fun _ _ => trivial)); (case aO => exact Kd.R_drewN HR.out _); (case aS => have := HK.out.1; simpa using this); (case aL => omega); intro v9 w9 ho9 hb9 hg9 hat9; clear hg9 hat9))
              go_step3
              exact ⟨m, Nat.lt_succ_self m, i, n, d, false, v9, l1 ++ [n], rfl, hidI (HRD.out.below hb9 hgw), hidI (keep_more HK.out hb9), hidI ho9, hi0, hi1, .inr ⟨by decide, by simp; omega⟩, HMM⟩
  case p0 =>
    intro P3
    rintro m a W ⟨i, n, d, mi, v4, l1, hfr, HRD, HK, HR, hi0, hi1, hlab, HM⟩
    refine ⟨_, rfl, ?_⟩
    generalize (fun k => a.tmps.getD k undef) = t at hfr
    subst hfr
    unfold mkAct
    have hll : (l1.length : Int) ≤ i := by rcases hlab with ⟨h, _⟩ | ⟨_, h⟩ <;> omega
    cases m with
    | zero => exact absurd HM.out (by simp [mach])
    | succ m =>
      have HN := hidI (now_same g A0 c0 b i w0 W HRD.out hi0)
      have HN2 := hidI (fun q => now_same g A0 c0 b i w0 (W.drewN q) (HRD.out.drewN q) hi0)
      have hmm := HM.out
      simp only [mach, if_true] at hmm
      obtain ⟨c, hc⟩ : ∃ c, nowP b i = c := ⟨_, rfl⟩
      rw [hc] at hmm HN
      simp only [hc] at HN2
      have hc1 := blk_cell HRD.out.1 1
      have hf1 := blk_frozen HRD.out.1 1
      simp only [List.getElem?_toArray, List.getElem?_cons_zero, List.getElem?_cons_succ] at hc1
      have HP3 := hidI P3
      clear P3
      by_cases e32 : c = 32
      · rw [if_pos e32] at hmm
        have hlt := now_lt hc (by omega)
        have HMM := hidI hmm
        clear hmm HM hc hm hrd hlab
        subst e32
        go_wp2_with (first | (refine HN.out.mono ?_; rintro e w1 ⟨rfl, m1, rfl⟩) | (refine (HN2.out _).mono ?_; rintro e w1 ⟨rfl, m2, rfl⟩))
        go_step3
        exact ⟨m, Nat.lt_succ_self m, i + 1, n, d, mi, v4, l1, rfl, hidI ((HRD.out.drewN _).set _), hidI ((keep_drewN HK.out _).set_ 1 _), hidI (Kd.R_set (Kd.R_drewN HR.out _) (blk_drewN HRD.out.1 _) (by decide) 1 _), by omega, by omega, .inr ⟨by decide, by omega⟩, HMM⟩
      rw [if_neg e32] at hmm
      by_cases e35 : c = 35
      · rw [if_pos e35] at hmm
        have HMM := hidI hmm
        clear hmm HM hc hm hrd hlab e32
        subst e35
        go_wp2_with (first | (refine HN.out.mono ?_; rintro e w1 ⟨rfl, m1, rfl⟩) | (refine (HN2.out _).mono ?_; rintro e w1 ⟨rfl, m2, rfl⟩))
        go_step3
        exact ⟨m, Nat.lt_succ_self m, i, n, d, mi, v4, l1, rfl, hidI (HRD.out.drewN _), hidI (keep_drewN HK.out _), hidI (Kd.R_drewN HR.out _), hi0, hi1, .inr ⟨by decide, hll⟩, HMM⟩
      rw [if_neg e35] at hmm
      by_cases e10 : c = 10
      · rw [if_pos e10] at hmm
        have HMM := hidI hmm
        clear hmm HM hc hm hrd hlab e32 e35
        subst e10
        go_wp2_with (first | (refine HN.out.mono ?_; rintro e w1 ⟨rfl, m1, rfl⟩) | (refine (HN2.out _).mono ?_; rintro e w1 ⟨rfl, m2, rfl⟩))
        go_step3
        exact ⟨m, Nat.lt_succ_self m, i, n, d, mi, v4, l1, rfl, hidI (HRD.out.drewN _), hidI (keep_drewN HK.out _), hidI (Kd.R_drewN HR.out _), hi0, hi1, .inr ⟨by decide, hll⟩, HMM⟩
      rw [if_neg e10] at hmm
      have hlt := now_lt hc e10
      have k1 : (c == 32) = false := beq_eq_false_iff_ne.mpr e32
      have k2 : (c == 35) = false := beq_eq_false_iff_ne.mpr e35
      have k3 : (c == 10) = false := beq_eq_false_iff_ne.mpr e10
      by_cases e45 : c = 45
      · rw [if_pos e45, show (c == 45) = true from beq_iff_eq.mpr e45] at hmm
        have HMM := hidI hmm
        clear hmm HM hc hm hrd hlab e32 e35 e10 k1 k2 k3
        subst e45
        go_wp2_with (first | (refine HN.out.mono ?_; rintro e w1 ⟨rfl, m1, rfl⟩) | (refine (HN2.out _).mono ?_; rintro e w1 ⟨rfl, m2, rfl⟩))
        go_step3
        go_step
        go_step
        refine pass_use HP3.out (m := m) ?_ rfl (Nat.le_succ m)
        exact ⟨i + 1, 0, 0, true, v4, l1, rfl, hidI ((HRD.out.drewN _).set _), hidI ((keep_drewN HK.out _).set_ 1 _), hidI (Kd.R_set (Kd.R_drewN HR.out _) (blk_drewN HRD.out.1 _) (by decide) 1 _), by omega, by omega, .inl ⟨rfl, by decide, by decide, by omega, by decide, by decide⟩, HMM⟩
      · rw [if_neg e45, show (c == 45) = false from beq_eq_false_iff_ne.mpr e45] at hmm
        have k4 : (c == 45) = false := beq_eq_false_iff_ne.mpr e45
        have HMM := hidI hmm
        clear hmm HM hc hm hrd hlab e32 e35 e10 e45
        go_wp2_with (first | (refine HN.out.mono ?_; rintro e w1 ⟨rfl, m1, rfl⟩) | (refine (HN2.out _).mono ?_; rintro e w1 ⟨rfl, m2, rfl⟩))
        go_step3
        go_step
        go_step
        refine pass_use HP3.out (m := m) ?_ rfl (Nat.le_succ m)
        exact ⟨i, 0, 0, false, v4, l1, rfl, hidI (HRD.out.drewN _), hidI (keep_drewN HK.out _), hidI (Kd.R_drewN HR.out _), by omega, by omega, .inl ⟨rfl, by decide, by decide, by omega, by decide, by decide⟩, HMM⟩
  case first =>
    intro P0
    have HP0 := hidI P0
    clear P0
    have HRD := hidI hrd
    have HM := hidI hm
    clear hrd hm
    go_wp2
    go_step3
    go_step
    go_step
    refine pass_first HP0.out (m := m) ?_ rfl
    exact ⟨i, 0, 0, false, .slice none 0 0, [], rfl, HRD, hidI (KeepBut.refl _ _ _), hidI (Kd.R_nil _ _ _ _ _), h0, h1, .inr ⟨by decide, by simpa using h0⟩, HM⟩

/-! ### scan_Lines: function 12, BY HAND -/
open Go.Proofs.YtdmlohoicgfdnaaDoor.Scan in
def scan_Lines.f (b : List Int) : Option (List (List Int) × Int) := if (b.length : Int) > 4096 then some ([], 6) else some (match textF b with | some r => (r, 0) | none => ([], 2))
open Go.Proofs.YtdmlohoicgfdnaaDoor.Scan in
theorem line_yes (g : Nat) (A0 : Option Addr) (c0 : Nat) (b : List Int) (i : Nat) (w0 w : World) (hrd : RdAt w0 w g A0 c0 b i) (h1 : i ≤ b.length) (hb : b.length ≤ 4096) (res : List Int) (hl : lineF (upto (b.drop i)) = some res) :
    Calls Tryd.prog 21 #[.pointer (some ⟨g, 0, none⟩)] w fun e w' => ∃ v : Value, e = .returned (.tuple #[v, .bool true]) ∧ Kd.R (Kd.int .i64) 3 w' w.heap.size (fun _ => True) v res ∧ RdAt w0 w' g A0 c0 b ((i : Int) + (upto (b.drop i)).length + 1) ∧ KeepBut w w' g none := by
  have h := (mach_line b (b.drop i).length i rfl (3 * (b.drop i).length + 4) (Nat.le_refl _)).1 0 0 false []
  unfold lineF at hl
  rw [hl] at h
  exact line_calls g A0 c0 b i _ res true _ w0 w hrd (by omega) (by omega) hb h
open Go.Proofs.YtdmlohoicgfdnaaDoor.Scan in
theorem line_no (g : Nat) (A0 : Option Addr) (c0 : Nat) (b : List Int) (i : Nat) (w0 w : World) (hrd : RdAt w0 w g A0 c0 b i) (h1 : i ≤ b.length) (hb : b.length ≤ 4096) (hl : lineF (upto (b.drop i)) = none) :
    Calls Tryd.prog 21 #[.pointer (some ⟨g, 0, none⟩)] w fun e w' => ∃ v : Value, e = .returned (.tuple #[v, .bool false]) ∧ Kd.R (Kd.int .i64) 3 w' w.heap.size (fun _ => True) v [] ∧ Below w0.heap.size w0 w' := by
  have h := (mach_line b (b.drop i).length i rfl (3 * (b.drop i).length + 4) (Nat.le_refl _)).1 0 0 false []
  unfold lineF at hl
  rw [hl] at h
  obtain ⟨i', h, _⟩ := h
  exact (line_calls g A0 c0 b i _ [] false _ w0 w hrd (by omega) (by omega) hb h).mono fun e w' ⟨v, he, hr, hd, hk⟩ => ⟨v, he, hr, hd.2.2.2⟩
set_option maxHeartbeats 4000000 in
set_option maxRecDepth 100000 in
open Go.Proofs.YtdmlohoicgfdnaaDoor.Scan in
theorem scan_Lines.calls (A0 : Option Addr) (c0 : Nat) (l0 : List Int) (r1 : List (List Int)) (r2 : Int) (w : World) (hr0 : Kd.C (Kd.int .u8) w A0 l0.length l0) (hc0 : l0.length ≤ c0) (h : scan_Lines.f l0 = some (r1, r2)) :
    Calls Tryd.prog 12 #[.slice A0 l0.length c0] w fun e w' => ∃ v0_ : Value, e = .returned (.tuple #[v0_, .int .i64 r2]) ∧ Kd.S (Kd.slice 3 (Kd.int .i64)) 27 w' w.heap.size (fun _ => True) v0_ r1 ∧ Below w.heap.size w w' := by
  have HR0 := hidI hr0
  have HC0 := hidI hc0
  clear hr0 hc0
  unfold scan_Lines.f at h
  by_cases c2 : (l0.length : Int) > 4096
  · rw [if_pos c2] at h
    simp only [Option.some.injEq, Prod.mk.injEq] at h
    obtain ⟨rfl, rfl⟩ := h
    have c2b0 : decide (4096 < (l0.length : Int)) = true := decide_eq_true c2
    have c2b1 : decide (4096 < l0.length) = true := decide_eq_true (by omega)
    clear c2
    go_enter Tryd.func12, Tryd.ntmps12
    go_wp2
    go_ret2
    exact ⟨_, rfl, Kd.S_nil _ _ _ _ _, Below.refl _ _⟩
  · rw [if_neg c2] at h
    have H := hidI (Option.some.inj h)
    have c2b0 : decide (4096 < (l0.length : Int)) = false := decide_eq_false c2
    have c2b1 : decide (4096 < l0.length) = false := decide_eq_false (by omega)
    clear c2 h
    go_enter Tryd.func12, Tryd.ntmps12
    go_wp2
    go_loopg [4] (l0.length + 2) (fun kq v4 wr => ∃ (acc : List (List Int)) (i : Nat), Hid (kq = l0.length + 2 - i) ∧ i ≤ l0.length + 1 ∧ Hid (RdAt w wr w.heap.size A0 c0 l0 i) ∧ Hid (Kd.S (Kd.slice 3 (Kd.int .i64)) 27 wr w.heap.size (fun _ => True) v4 acc) ∧ acc.length ≤ i ∧ Hid (textF l0 = (textF (l0.drop i)).map fun x => acc ++ x))
    case atStart => exact ⟨[], 0, hidI rfl, by omega, hidI ⟨by show (w.heap.push _)[w.heap.size]? = _; simp, Nat.le_refl _, HR0.out, below_alloc (Below.refl _ _) _⟩, hidI (Kd.S_nil _ _ _ _ _), by simp, hidI (by simp)⟩
    case round =>
      obtain ⟨acc, i, HI, hi1, HD, HS, hacc, HE⟩ := hrel
      have hlen : l0.length ≤ 4096 := by have := of_decide_eq_false c2b1; omega
      by_cases hlt : i < l0.length
      · have hc1 := blk_cell HD.out.1 1
        simp only [List.getElem?_toArray, List.getElem?_cons_zero, List.getElem?_cons_succ] at hc1
        have t1 : decide ((i : Int) < (l0.length : Int)) = true := decide_eq_true (by omega)
        have t1n : decide (i < l0.length) = true := decide_eq_true (by omega)
        have hnext := textF_next l0 i
        have hq := upto_len (l0.drop i)
        simp only [List.length_drop] at hq
        cases hl : lineF (upto (l0.drop i)) with
        | none =>
          have HLN := hidI (line_no w.heap.size A0 c0 l0 i w wr HD.out (by omega) hlen hl)
          rw [hl] at hnext
          have he := HE.out
          rw [hnext] at he
          have h := H.out
          rw [he] at h
          simp only [Option.bind_none, Option.map_none, Prod.mk.injEq] at h
          obtain ⟨rfl, rfl⟩ := h
          clear hnext hl he HE hlt H hq
          go_wp2_with (refine HLN.out.mono ?_; rintro e w1 ⟨v, rfl, hR, hB⟩; have HR := hidI hR; have HB := hidI hB; clear hR hB; obtain ⟨A1, c1, rfl⟩ := Kd.R_slice HR.out)
          go_ret2
          exact ⟨_, rfl, Kd.S_nil _ _ _ _ _, HB.out⟩
        | some res =>
          have HLN := hidI (line_yes w.heap.size A0 c0 l0 i w wr HD.out (by omega) hlen res hl)
          rw [hl] at hnext
          have he := HE.out
          rw [hnext] at he
          simp only [Option.bind_some, Option.map_map] at he
          generalize hqq : (upto (l0.drop i)).length = q at *
          have hq2 : i + q ≤ l0.length := by omega
          have HSB := hidI (Kd.S_mono (Kd.S_bound (Kd.S_types HS.out HD.out.1 (by decide))) (fun k hk => (⟨hk.1.2, hk.2.2.1⟩ : k ≠ w.heap.size ∧ k < wr.heap.size)))
          have hwr : w.heap.size ≤ wr.heap.size := HD.out.2.2.2.size
          have HWR := hidI hwr
          clear hwr
          by_cases h0 : res = []
          · subst h0
            have t2 : decide (0 < (([] : List Int).length : Int)) = false := by simp
            have HE2 := hidI (show textF l0 = (textF (l0.drop (i + q + 1))).map fun x => acc ++ x from he)
            clear hnext hl he HE hlt hqq
            go_wp2_with (refine HLN.out.mono ?_; rintro e w1 ⟨v, rfl, hR, hD, hK⟩; have HR := hidI hR; have HD1 := hidI hD; have HK := hidI hK; clear hR hD hK; obtain ⟨A1, c1, rfl⟩ := Kd.R_slice HR.out)
            go_roundg (l0.length + 2 - (i + q + 1))
            case measure => have := HI.out; omega
            case rel => exact ⟨acc, i + q + 1, hidI rfl, by omega, hidI (by have := HD1.out; simpa using this), hidI (Kd.S_mono (Kd.S_keep HSB.out HK.out (fun _ h => h.1)) (fun _ _ => trivial)), by omega, HE2⟩
          · have t2 : decide (0 < (res.length : Int)) = true := decide_eq_true (by have := List.length_pos_iff.mpr h0; omega)
            have t2n : decide (0 < res.length) = true := decide_eq_true (by have := List.length_pos_iff.mpr h0; omega)
            have HE2 := hidI (show textF l0 = (textF (l0.drop (i + q + 1))).map fun x => (acc ++ [res]) ++ x by
              rw [he]; congr 1; funext x; simp [h0])
            clear hnext hl he HE hlt hqq h0
            go_wp2_with (first | (go_at_call 21; refine HLN.out.mono ?_; rintro e w1 ⟨v, rfl, hR, hD, hK⟩; have HR := hidI hR; have HD1 := hidI hD; have HK := hidI hK; clear hR hD hK; obtain ⟨A1, c1, rfl⟩ := Kd.R_slice HR.out; have HS1 := hidI (Kd.S_mono (ok' := fun k => True ∧ ¬ some k = (Value.slice A1 res.length c1).ownBlock) (Kd.S_keep HSB.out HK.out (fun _ h => h.1)) (fun k hk => ⟨trivial, fun e => absurd (Kd.R_base HR.out k e.symm) (by have := hk.2; omega)⟩)); have HRT := hidI (Kd.R_mono (Kd.R_tight rfl (Kd.R_lower HR.out HWR.out)) (fun _ h => h))) | ((with_reducible refine gate_builtin (b := .append) (xs := #[.tmp 31, .tmp 33]) rfl ?_); at_builtin; go_loud (refine Kd.S_append (Kd.slice 3 (Kd.int .i64)) (w0 := w) w.heap.size rfl (.tmp 31) (.tmp 33) 22 27 (.slice none 0 0) 24 rfl Tryd.underlying22 info27 rfl (by decide) (by omega) u4 acc res [.slice A1 res.length c1] (fun _ => True) (fun k_ => some k_ = (.slice A1 res.length c1 : Value).ownBlock) rfl rfl ?aP ?aK ?aF ?aO ?aB ?aS ?aL ?_; (case aP => exact Kd.M_row HRT.out); (case aK => exact (fun k hk => ⟨trivial, fun e => absurd (Kd.S_lt HS.out k e.symm) (by have := Kd.R_base HR.out k hk.symm; omega)⟩)); (case aF => exact (fun _ _ => trivial)); (case aO => exact HS1.out); (case aB => exact HD1.out.2.2.2); (case aS => exact HD1.out.2.2.2.size); (case aL => omega); intro v9 w9 ho9 hb9 hg9 hat9; have HO9 := hidI ho9; have HB9 := hidI hb9; have HG9 := hidI hg9; clear ho9 hb9 hg9 hat9)))
            go_roundg (l0.length + 2 - (i + q + 1))
            case measure => have := HI.out; omega
            case rel => exact ⟨acc ++ [res], i + q + 1, hidI rfl, by omega, hidI ⟨(blk_grown HD1.out.1 HG9.out (Kd.S_ne HS.out HD.out.1 (by decide))).trans (by simp), Nat.le_refl _, HD1.out.2.2.1, HB9.out⟩, HO9, by simp; omega, HE2⟩
      · have hc1 := blk_cell HD.out.1 1
        simp only [List.getElem?_toArray, List.getElem?_cons_zero, List.getElem?_cons_succ] at hc1
        have t1 : decide ((i : Int) < (l0.length : Int)) = false := decide_eq_false (by omega)
        have t1n : decide (i < l0.length) = false := decide_eq_false (by omega)
        have he := HE.out
        rw [List.drop_eq_nil_of_le (by omega), textF_nil] at he
        have h := H.out
        rw [he] at h
        simp only [Option.map_some, List.append_nil, Prod.mk.injEq] at h
        obtain ⟨rfl, rfl⟩ := h
        clear he HE hlt H
        go_wp2
        go_ret2
        exact ⟨_, rfl, HS.out, HD.out.2.2.2⟩

/-! ### haulierlaw04_awake: function 8 -/
def haulierlaw04_awake.f  : Option (Bool) := (scan_Lines.f (([49, 32, 45, 50, 32, 32, 35, 32, 120, 10, 10, 48, 48, 55] : List Int))).bind fun bt111 => (if bt111.2 = 0 then (if (bt111.1.length : Int) = 2 then (if 0 < (bt111.1.length : Int) then (if ((rd_L2 bt111.1 0).length : Int) = 2 then (if 1 < ((rd_L2 bt111.1 0).length : Int) then (if (rd (rd_L2 bt111.1 0) 1) = (-2) then (if 1 < (bt111.1.length : Int) then (if ((rd_L2 bt111.1 1).length : Int) = 1 then (if 0 < ((rd_L2 bt111.1 1).length : Int) then (some ((rd (rd_L2 bt111.1 1) 0) == 7)) else (none)) else (some false)) else (none)) else (some false)) else (none)) else (some false)) else (none)) else (some false)) else (some false))
theorem haulierlaw04_awake.lit_C (w : World) : Kd.C (Kd.int .u8) (w.alloc (.cells #[.int .u8 49, .int .u8 32, .int .u8 45, .int .u8 50, .int .u8 32, .int .u8 32, .int .u8 35, .int .u8 32, .int .u8 120, .int .u8 10, .int .u8 10, .int .u8 48, .int .u8 48, .int .u8 55] 5 (14, 14 + 1))) (some ⟨w.heap.size, 0, none⟩) 14 ([49, 32, 45, 50, 32, 32, 35, 32, 120, 10, 10, 48, 48, 55] : List Int) := by
  have hb : (w.alloc (.cells #[.int .u8 49, .int .u8 32, .int .u8 45, .int .u8 50, .int .u8 32, .int .u8 32, .int .u8 35, .int .u8 32, .int .u8 120, .int .u8 10, .int .u8 10, .int .u8 48, .int .u8 48, .int .u8 55] 5 (14, 14 + 1))).heap[w.heap.size]? = some (.cells #[.int .u8 49, .int .u8 32, .int .u8 45, .int .u8 50, .int .u8 32, .int .u8 32, .int .u8 35, .int .u8 32, .int .u8 120, .int .u8 10, .int .u8 10, .int .u8 48, .int .u8 48, .int .u8 55] 5 (14, 14 + 1)) := by
    show (w.heap.push _)[w.heap.size]? = _
    simp
  refine Kd.C_of_reads (d := 0) ⟨rfl, by decide, fun _ => ⟨_, rfl, fun j hj => ?_⟩⟩
  rw [add_plain, cell_of_row _ _ j _ _ _ hb]
  match j, hj with
  | 0, _ => rfl
  | 1, _ => rfl
  | 2, _ => rfl
  | 3, _ => rfl
  | 4, _ => rfl
  | 5, _ => rfl
  | 6, _ => rfl
  | 7, _ => rfl
  | 8, _ => rfl
  | 9, _ => rfl
  | 10, _ => rfl
  | 11, _ => rfl
  | 12, _ => rfl
  | 13, _ => rfl
  | j + 14, h => omega
set_option maxHeartbeats 8000000 in
set_option maxRecDepth 100000 in
theorem haulierlaw04_awake.calls  (r : Bool) (w : World) (h : haulierlaw04_awake.f  = some r) :
    Calls Tryd.prog 8 #[] w fun e w' => e = .returned (.bool r) ∧ Below w.heap.size w w' := by
  have HB := Aside0.mk (Below.refl w.heap.size w)
  have H : ((scan_Lines.f (([49, 32, 45, 50, 32, 32, 35, 32, 120, 10, 10, 48, 48, 55] : List Int))).bind fun bt111 => (if bt111.2 = 0 then (if (bt111.1.length : Int) = 2 then (if 0 < (bt111.1.length : Int) then (if ((rd_L2 bt111.1 0).length : Int) = 2 then (if 1 < ((rd_L2 bt111.1 0).length : Int) then (if (rd (rd_L2 bt111.1 0) 1) = (-2) then (if 1 < (bt111.1.length : Int) then (if ((rd_L2 bt111.1 1).length : Int) = 1 then (if 0 < ((rd_L2 bt111.1 1).length : Int) then (some ((rd (rd_L2 bt111.1 1) 0) == 7)) else (none)) else (some false)) else (none)) else (some false)) else (none)) else (some false)) else (none)) else (some false)) else (some false))) = some r := h
  clear h
  obtain ⟨y108, hy108⟩ : ∃ y_ : List Int, y_ = (([49, 32, 45, 50, 32, 32, 35, 32, 120, 10, 10, 48, 48, 55] : List Int)) := ⟨_, rfl⟩
  replace H : ((scan_Lines.f y108).bind fun bt111 => (if bt111.2 = 0 then (if (bt111.1.length : Int) = 2 then (if 0 < (bt111.1.length : Int) then (if ((rd_L2 bt111.1 0).length : Int) = 2 then (if 1 < ((rd_L2 bt111.1 0).length : Int) then (if (rd (rd_L2 bt111.1 0) 1) = (-2) then (if 1 < (bt111.1.length : Int) then (if ((rd_L2 bt111.1 1).length : Int) = 1 then (if 0 < ((rd_L2 bt111.1 1).length : Int) then (some ((rd (rd_L2 bt111.1 1) 0) == 7)) else (none)) else (some false)) else (none)) else (some false)) else (none)) else (some false)) else (none)) else (some false)) else (some false))) = some r := by first | (rw [hy108]; with_reducible exact H) | (have H2_ := (Option.bind_some _ _).symm.trans H; rw [hy108]; with_reducible exact H2_) | (have H2_ := (Option.bind_some _ _).symm.trans H; with_reducible exact H2_) | with_reducible exact H | (rw [hy108]; exact H) | exact H
  have Ny108 := Aside0.mk hy108
  clear hy108
  replace H := Option.bind_eq_some_iff.mp H
  obtain ⟨⟨t111, t112⟩, A10, H⟩ := H
  replace H : (if t112 = 0 then (if (t111.length : Int) = 2 then (if 0 < (t111.length : Int) then (if ((rd_L2 t111 0).length : Int) = 2 then (if 1 < ((rd_L2 t111 0).length : Int) then (if (rd (rd_L2 t111 0) 1) = (-2) then (if 1 < (t111.length : Int) then (if ((rd_L2 t111 1).length : Int) = 1 then (if 0 < ((rd_L2 t111 1).length : Int) then (some ((rd (rd_L2 t111 1) 0) == 7)) else (none)) else (some false)) else (none)) else (some false)) else (none)) else (some false)) else (none)) else (some false)) else (some false)) = some r := H
  have A1 := Aside0.mk A10
  clear A10
  by_cases c2 : t112 = 0
  · rw [if_pos c2] at H
    have c2b0 : (t112 == 0) = true := beq_iff_eq.mpr c2
    have c2b1 : (t112 != 0) = false := bne_eq_false_iff_eq.mpr c2
    clear c2
    by_cases c3 : (t111.length : Int) = 2
    · rw [if_pos c3] at H
      have c3b0 : ((t111.length : Int) == 2) = true := beq_iff_eq.mpr c3
      have c3b1 : ((t111.length : Int) != 2) = false := bne_eq_false_iff_eq.mpr c3
      clear c3
      by_cases c4 : 0 < (t111.length : Int)
      · rw [if_pos c4] at H
        have c4b0 : decide (0 < (t111.length : Int)) = true := decide_eq_true c4
        have c4b1 : decide (0 < t111.length) = true := decide_eq_true (by omega)
        clear c4
        by_cases c5 : ((rd_L2 t111 0).length : Int) = 2
        · rw [if_pos c5] at H
          have c5b0 : (((rd_L2 t111 0).length : Int) == 2) = true := beq_iff_eq.mpr c5
          have c5b1 : (((rd_L2 t111 0).length : Int) != 2) = false := bne_eq_false_iff_eq.mpr c5
          clear c5
          by_cases c6 : 1 < ((rd_L2 t111 0).length : Int)
          · rw [if_pos c6] at H
            have c6b0 : decide (1 < ((rd_L2 t111 0).length : Int)) = true := decide_eq_true c6
            have c6b1 : decide (1 < (rd_L2 t111 0).length) = true := decide_eq_true (by omega)
            clear c6
            by_cases c7 : (rd (rd_L2 t111 0) 1) = (-2)
            · rw [if_pos c7] at H
              have c7b0 : ((rd (rd_L2 t111 0) 1) == (-2)) = true := beq_iff_eq.mpr c7
              have c7b1 : ((rd (rd_L2 t111 0) 1) != (-2)) = false := bne_eq_false_iff_eq.mpr c7
              clear c7
              by_cases c8 : 1 < (t111.length : Int)
              · rw [if_pos c8] at H
                have c8b0 : decide (1 < (t111.length : Int)) = true := decide_eq_true c8
                have c8b1 : decide (1 < t111.length) = true := decide_eq_true (by omega)
                clear c8
                by_cases c9 : ((rd_L2 t111 1).length : Int) = 1
                · rw [if_pos c9] at H
                  have c9b0 : (((rd_L2 t111 1).length : Int) == 1) = true := beq_iff_eq.mpr c9
                  have c9b1 : (((rd_L2 t111 1).length : Int) != 1) = false := bne_eq_false_iff_eq.mpr c9
                  clear c9
                  by_cases c10 : 0 < ((rd_L2 t111 1).length : Int)
                  · rw [if_pos c10] at H
                    have c10b0 : decide (0 < ((rd_L2 t111 1).length : Int)) = true := decide_eq_true c10
                    have c10b1 : decide (0 < (rd_L2 t111 1).length) = true := decide_eq_true (by omega)
                    clear c10
                    obtain rfl := Option.some.inj H
                    obtain ⟨hy_⟩ := Ny108
                    subst hy_
                    have kc := fun (W : World) (C : Array Value) (n c : Nat) => Lib.run_convert_bytes_const (P := Tryd.prog) W 25 5 C n c Tryd.underlying25 Tryd.underlying5
                    go_enter Tryd.func8, Tryd.ntmps8
                    go_wp2_with (first | ((with_reducible refine gate_callee (f := 12) rfl ?_); refine goesL_ (some 6) rfl rfl Tryd.func12 (by kernel_rfl) rfl #[.slice (some ⟨w.heap.size, 0, none⟩) 14 14] rfl (by (try simp only [List.map_toArray, List.map_cons, List.map_nil]); first | done | rfl | (simp only [List.length_drop, List.length_take]; rfl)) ?_; (refine (scan_Lines.calls (some ⟨w.heap.size, 0, none⟩) 14 ([49, 32, 45, 50, 32, 32, 35, 32, 120, 10, 10, 48, 48, 55] : List Int) t111 t112 _ ?side1 ?side2 A1.out).mono ?_); (case side1 => exact haulierlaw04_awake.lit_C w); (case side2 => exact Nat.le_refl _); rintro e w14 ⟨v113, rfl, ho0, hb⟩; refine ⟨_, rfl, ?_⟩; have n1_ := Aside0.mk (Kd.S_lower ho0 (below_size (by repeat (first | (with_reducible first | exact HB.out | apply below_alloc | apply pw_below_drewN | apply below_drew1) | exact HB.out)))); have n2_ := Aside0.mk (below_step (by repeat (first | (with_reducible first | exact HB.out | apply below_alloc | apply pw_below_drewN | apply below_drew1) | exact HB.out)) hb); clear HB; have HO114 := n1_; have HB := n2_; clear n1_ n2_; (try clear hb); (try clear hb2); (try clear hk); (try clear hi); (try clear ho0); obtain ⟨Ao15, co15, eo15⟩ := Kd.S_slice HO114.out; subst eo15; have p115 : 0 ≤ (0 : Int) := (by omega); have q115 : 0 < (t111.length : Int) := of_decide_eq_true (by first | (with_reducible assumption) | assumption); obtain ⟨ad115, A115_0, c115_0, e115, hx115_0, hl115_0, hi115_0⟩ := at_L2 (Kd.S_reads' HO114.out).2.2 0 p115 q115; cases e115; obtain ⟨ce115, hce115, hMe115, hcc115⟩ := Kd.S_get HO114.out [] 0 p115 (by first | exact q115 | exact of_decide_eq_true (by first | (with_reducible assumption) | assumption) | (have e_ := (Kd.S_reads' HO114.out).1; omega)); obtain ⟨ve115_0, rfl, ge115_0⟩ := hMe115; have hv115_0 := hcc115 0 _ rfl; rw [Nat.add_zero, show ((Kd.slice 3 (Kd.int .i64))).sz = 1 from rfl, Nat.mul_one] at hv115_0; replace hv115_0 := Option.some.inj (hv115_0.symm.trans hx115_0); rw [hv115_0] at ge115_0; have HL115_0 := Aside0.mk (show Kd.R (Kd.int .i64) 3 _ _ _ _ (rd_L2 t111 0) from ge115_0); clear hv115_0 ge115_0; clear hcc115 hce115; have qi115 : (0 < t111.length) = True := eq_true (by omega); (try rw [show ((0 : Int)).toNat = 0 from rfl] at hx115_0); (try rw [Addr.add_zero'] at hx115_0); have HR115_0 := Aside0.mk hi115_0; have HC115_0 := Aside0.mk hl115_0; clear hi115_0 hl115_0; replace p115 := eq_true p115; replace q115 := eq_true q115; have p116 : 0 ≤ (0 : Int) := (by omega); have q116 : 0 < (t111.length : Int) := of_decide_eq_true (by first | (with_reducible assumption) | assumption); obtain ⟨ad116, A116_0, c116_0, e116, hx116_0, hl116_0, hi116_0⟩ := at_L2 (Kd.S_reads' HO114.out).2.2 0 p116 q116; obtain rfl : ad115 = ad116 := (by injection e116); obtain ⟨ce116, hce116, hMe116, hcc116⟩ := Kd.S_get HO114.out [] 0 p116 (by first | exact q116 | exact of_decide_eq_true (by first | (with_reducible assumption) | assumption) | (have e_ := (Kd.S_reads' HO114.out).1; omega)); obtain ⟨ve116_0, rfl, ge116_0⟩ := hMe116; have hv116_0 := hcc116 0 _ rfl; rw [Nat.add_zero, show ((Kd.slice 3 (Kd.int .i64))).sz = 1 from rfl, Nat.mul_one] at hv116_0; replace hv116_0 := Option.some.inj (hv116_0.symm.trans hx116_0); rw [hv116_0] at ge116_0; have HL116_0 := Aside0.mk (show Kd.R (Kd.int .i64) 3 _ _ _ _ (rd_L2 t111 0) from ge116_0); clear hv116_0 ge116_0; clear hcc116 hce116; have qi116 : (0 < t111.length) = True := eq_true (by omega); (try rw [show ((0 : Int)).toNat = 0 from rfl] at hx116_0); (try rw [Addr.add_zero'] at hx116_0); have HR116_0 := Aside0.mk hi116_0; have HC116_0 := Aside0.mk hl116_0; clear hi116_0 hl116_0; replace p116 := eq_true p116; replace q116 := eq_true q116; have ea_ := Option.some.inj (hx115_0.symm.trans hx116_0); injection ea_ with ea_ en_ ec_; subst ea_; subst ec_; clear en_; have p117 : 0 ≤ (1 : Int) := (by omega); have q117 : 1 < ((rd_L2 t111 0).length : Int) := of_decide_eq_true (by first | (with_reducible assumption) | assumption); obtain ⟨ad117, e117, hx117_0⟩ := Kd.at_int (by repeat (first | (with_reducible exact HR116_0.out) | (with_reducible refine Kd.C_alloc ?_ _) | (with_reducible refine Kd.C_drewN ?_ _) | (with_reducible refine Kd.C_drew ?_) | exact HR116_0.out)) 1 p117 q117; cases e117; (try simp only [show (1 : Int).toNat = 1 from rfl, Nat.reduceMul, Nat.reduceEqDiff, Go.Addr.add, ↓reduceIte] at hx117_0); have qi117 : (1 < (rd_L2 t111 0).length) = True := eq_true (by omega); (try rw [show ((1 : Int)).toNat = 1 from rfl] at hx117_0); replace p117 := eq_true p117; replace q117 := eq_true q117; have p118 : 0 ≤ (1 : Int) := (by omega); have q118 : 1 < (t111.length : Int) := of_decide_eq_true (by first | (with_reducible assumption) | assumption); obtain ⟨ad118, A118_0, c118_0, e118, hx118_0, hl118_0, hi118_0⟩ := at_L2 (Kd.S_reads' HO114.out).2.2 1 p118 q118; obtain rfl : ad115 = ad118 := (by injection e118); obtain ⟨ce118, hce118, hMe118, hcc118⟩ := Kd.S_get HO114.out [] 1 p118 (by first | exact q118 | exact of_decide_eq_true (by first | (with_reducible assumption) | assumption) | (have e_ := (Kd.S_reads' HO114.out).1; omega)); obtain ⟨ve118_0, rfl, ge118_0⟩ := hMe118; have hv118_0 := hcc118 0 _ rfl; rw [Nat.add_zero, show ((Kd.slice 3 (Kd.int .i64))).sz = 1 from rfl, Nat.mul_one] at hv118_0; replace hv118_0 := Option.some.inj (hv118_0.symm.trans hx118_0); rw [hv118_0] at ge118_0; have HL118_0 := Aside0.mk (show Kd.R (Kd.int .i64) 3 _ _ _ _ (rd_L2 t111 1) from ge118_0); clear hv118_0 ge118_0; clear hcc118 hce118; (try simp only [show (1 : Int).toNat = 1 from rfl, Nat.reduceMul, Nat.reduceEqDiff, Go.Addr.add, ↓reduceIte] at hx118_0); have qi118 : (1 < t111.length) = True := eq_true (by omega); (try rw [show ((1 : Int)).toNat = 1 from rfl] at hx118_0); have HR118_0 := Aside0.mk hi118_0; have HC118_0 := Aside0.mk hl118_0; clear hi118_0 hl118_0; replace p118 := eq_true p118; replace q118 := eq_true q118; have p119 : 0 ≤ (1 : Int) := (by omega); have q119 : 1 < (t111.length : Int) := of_decide_eq_true (by first | (with_reducible assumption) | assumption); obtain ⟨ad119, A119_0, c119_0, e119, hx119_0, hl119_0, hi119_0⟩ := at_L2 (Kd.S_reads' HO114.out).2.2 1 p119 q119; obtain rfl : ad115 = ad119 := (by injection e119); obtain ⟨ce119, hce119, hMe119, hcc119⟩ := Kd.S_get HO114.out [] 1 p119 (by first | exact q119 | exact of_decide_eq_true (by first | (with_reducible assumption) | assumption) | (have e_ := (Kd.S_reads' HO114.out).1; omega)); obtain ⟨ve119_0, rfl, ge119_0⟩ := hMe119; have hv119_0 := hcc119 0 _ rfl; rw [Nat.add_zero, show ((Kd.slice 3 (Kd.int .i64))).sz = 1 from rfl, Nat.mul_one] at hv119_0; replace hv119_0 := Option.some.inj (hv119_0.symm.trans hx119_0); rw [hv119_0] at ge119_0; have HL119_0 := Aside0.mk (show Kd.R (Kd.int .i64) 3 _ _ _ _ (rd_L2 t111 1) from ge119_0); clear hv119_0 ge119_0; clear hcc119 hce119; (try simp only [show (1 : Int).toNat = 1 from rfl, Nat.reduceMul, Nat.reduceEqDiff, Go.Addr.add, ↓reduceIte] at hx119_0); have qi119 : (1 < t111.length) = True := eq_true (by omega); (try rw [show ((1 : Int)).toNat = 1 from rfl] at hx119_0); have HR119_0 := Aside0.mk hi119_0; have HC119_0 := Aside0.mk hl119_0; clear hi119_0 hl119_0; replace p119 := eq_true p119; replace q119 := eq_true q119; have ea_ := Option.some.inj (hx118_0.symm.trans hx119_0); injection ea_ with ea_ en_ ec_; subst ea_; subst ec_; clear en_; have p120 : 0 ≤ (0 : Int) := (by omega); have q120 : 0 < ((rd_L2 t111 1).length : Int) := of_decide_eq_true (by first | (with_reducible assumption) | assumption); obtain ⟨ad120, e120, hx120_0⟩ := Kd.at_int (by repeat (first | (with_reducible exact HR119_0.out) | (with_reducible refine Kd.C_alloc ?_ _) | (with_reducible refine Kd.C_drewN ?_ _) | (with_reducible refine Kd.C_drew ?_) | exact HR119_0.out)) 0 p120 q120; cases e120; have qi120 : (0 < (rd_L2 t111 1).length) = True := eq_true (by omega); (try rw [show ((0 : Int)).toNat = 0 from rfl] at hx120_0); (try rw [Addr.add_zero'] at hx120_0); replace p120 := eq_true p120; replace q120 := eq_true q120))
                    go_ret
                    exact ⟨by first | rfl | (simp [errW_none, errW_some] <;> rfl) | (simp [*, errW_none, errW_some] <;> rfl), by repeat (first | (with_reducible first | exact HB.out | apply below_alloc | apply pw_below_drewN | apply below_drew1) | exact HB.out)⟩
                  · rw [if_neg c10] at H
                    exact absurd H (by simp)
                · rw [if_neg c9] at H
                  have c9b0 : (((rd_L2 t111 1).length : Int) == 1) = false := beq_eq_false_iff_ne.mpr c9
                  have c9b1 : (((rd_L2 t111 1).length : Int) != 1) = true := bne_iff_ne.mpr c9
                  obtain rfl := Option.some.inj H
                  obtain ⟨hy_⟩ := Ny108
                  subst hy_
                  have kc := fun (W : World) (C : Array Value) (n c : Nat) => Lib.run_convert_bytes_const (P := Tryd.prog) W 25 5 C n c Tryd.underlying25 Tryd.underlying5
                  go_enter Tryd.func8, Tryd.ntmps8
                  go_wp2_with (first | ((with_reducible refine gate_callee (f := 12) rfl ?_); refine goesL_ (some 6) rfl rfl Tryd.func12 (by kernel_rfl) rfl #[.slice (some ⟨w.heap.size, 0, none⟩) 14 14] rfl (by (try simp only [List.map_toArray, List.map_cons, List.map_nil]); first | done | rfl | (simp only [List.length_drop, List.length_take]; rfl)) ?_; (refine (scan_Lines.calls (some ⟨w.heap.size, 0, none⟩) 14 ([49, 32, 45, 50, 32, 32, 35, 32, 120, 10, 10, 48, 48, 55] : List Int) t111 t112 _ ?side1 ?side2 A1.out).mono ?_); (case side1 => exact haulierlaw04_awake.lit_C w); (case side2 => exact Nat.le_refl _); rintro e w19 ⟨v113, rfl, ho0, hb⟩; refine ⟨_, rfl, ?_⟩; have n1_ := Aside0.mk (Kd.S_lower ho0 (below_size (by repeat (first | (with_reducible first | exact HB.out | apply below_alloc | apply pw_below_drewN | apply below_drew1) | exact HB.out)))); have n2_ := Aside0.mk (below_step (by repeat (first | (with_reducible first | exact HB.out | apply below_alloc | apply pw_below_drewN | apply below_drew1) | exact HB.out)) hb); clear HB; have HO114 := n1_; have HB := n2_; clear n1_ n2_; (try clear hb); (try clear hb2); (try clear hk); (try clear hi); (try clear ho0); obtain ⟨Ao20, co20, eo20⟩ := Kd.S_slice HO114.out; subst eo20; have p115 : 0 ≤ (0 : Int) := (by omega); have q115 : 0 < (t111.length : Int) := of_decide_eq_true (by first | (with_reducible assumption) | assumption); obtain ⟨ad115, A115_0, c115_0, e115, hx115_0, hl115_0, hi115_0⟩ := at_L2 (Kd.S_reads' HO114.out).2.2 0 p115 q115; cases e115; obtain ⟨ce115, hce115, hMe115, hcc115⟩ := Kd.S_get HO114.out [] 0 p115 (by first | exact q115 | exact of_decide_eq_true (by first | (with_reducible assumption) | assumption) | (have e_ := (Kd.S_reads' HO114.out).1; omega)); obtain ⟨ve115_0, rfl, ge115_0⟩ := hMe115; have hv115_0 := hcc115 0 _ rfl; rw [Nat.add_zero, show ((Kd.slice 3 (Kd.int .i64))).sz = 1 from rfl, Nat.mul_one] at hv115_0; replace hv115_0 := Option.some.inj (hv115_0.symm.trans hx115_0); rw [hv115_0] at ge115_0; have HL115_0 := Aside0.mk (show Kd.R (Kd.int .i64) 3 _ _ _ _ (rd_L2 t111 0) from ge115_0); clear hv115_0 ge115_0; clear hcc115 hce115; have qi115 : (0 < t111.length) = True := eq_true (by omega); (try rw [show ((0 : Int)).toNat = 0 from rfl] at hx115_0); (try rw [Addr.add_zero'] at hx115_0); have HR115_0 := Aside0.mk hi115_0; have HC115_0 := Aside0.mk hl115_0; clear hi115_0 hl115_0; replace p115 := eq_true p115; replace q115 := eq_true q115; have p116 : 0 ≤ (0 : Int) := (by omega); have q116 : 0 < (t111.length : Int) := of_decide_eq_true (by first | (with_reducible assumption) | assumption); obtain ⟨ad116, A116_0, c116_0, e116, hx116_0, hl116_0, hi116_0⟩ := at_L2 (Kd.S_reads' HO114.out).2.2 0 p116 q116; obtain rfl : ad115 = ad116 := (by injection e116); obtain ⟨ce116, hce116, hMe116, hcc116⟩ := Kd.S_get HO114.out [] 0 p116 (by first | exact q116 | exact of_decide_eq_true (by first | (with_reducible assumption) | assumption) | (have e_ := (Kd.S_reads' HO114.out).1; omega)); obtain ⟨ve116_0, rfl, ge116_0⟩ := hMe116; have hv116_0 := hcc116 0 _ rfl; rw [Nat.add_zero, show ((Kd.slice 3 (Kd.int .i64))).sz = 1 from rfl, Nat.mul_one] at hv116_0; replace hv116_0 := Option.some.inj (hv116_0.symm.trans hx116_0); rw [hv116_0] at ge116_0; have HL116_0 := Aside0.mk (show Kd.R (Kd.int .i64) 3 _ _ _ _ (rd_L2 t111 0) from ge116_0); clear hv116_0 ge116_0; clear hcc116 hce116; have qi116 : (0 < t111.length) = True := eq_true (by omega); (try rw [show ((0 : Int)).toNat = 0 from rfl] at hx116_0); (try rw [Addr.add_zero'] at hx116_0); have HR116_0 := Aside0.mk hi116_0; have HC116_0 := Aside0.mk hl116_0; clear hi116_0 hl116_0; replace p116 := eq_true p116; replace q116 := eq_true q116; have ea_ := Option.some.inj (hx115_0.symm.trans hx116_0); injection ea_ with ea_ en_ ec_; subst ea_; subst ec_; clear en_; have p117 : 0 ≤ (1 : Int) := (by omega); have q117 : 1 < ((rd_L2 t111 0).length : Int) := of_decide_eq_true (by first | (with_reducible assumption) | assumption); obtain ⟨ad117, e117, hx117_0⟩ := Kd.at_int (by repeat (first | (with_reducible exact HR116_0.out) | (with_reducible refine Kd.C_alloc ?_ _) | (with_reducible refine Kd.C_drewN ?_ _) | (with_reducible refine Kd.C_drew ?_) | exact HR116_0.out)) 1 p117 q117; cases e117; (try simp only [show (1 : Int).toNat = 1 from rfl, Nat.reduceMul, Nat.reduceEqDiff, Go.Addr.add, ↓reduceIte] at hx117_0); have qi117 : (1 < (rd_L2 t111 0).length) = True := eq_true (by omega); (try rw [show ((1 : Int)).toNat = 1 from rfl] at hx117_0); replace p117 := eq_true p117; replace q117 := eq_true q117; have p118 : 0 ≤ (1 : Int) := (by omega); have q118 : 1 < (t111.length : Int) := of_decide_eq_true (by first | (with_reducible assumption) | assumption); obtain ⟨ad118, A118_0, c118_0, e118, hx118_0, hl118_0, hi118_0⟩ := at_L2 (Kd.S_reads' HO114.out).2.2 1 p118 q118; obtain rfl : ad115 = ad118 := (by injection e118); obtain ⟨ce118, hce118, hMe118, hcc118⟩ := Kd.S_get HO114.out [] 1 p118 (by first | exact q118 | exact of_decide_eq_true (by first | (with_reducible assumption) | assumption) | (have e_ := (Kd.S_reads' HO114.out).1; omega)); obtain ⟨ve118_0, rfl, ge118_0⟩ := hMe118; have hv118_0 := hcc118 0 _ rfl; rw [Nat.add_zero, show ((Kd.slice 3 (Kd.int .i64))).sz = 1 from rfl, Nat.mul_one] at hv118_0; replace hv118_0 := Option.some.inj (hv118_0.symm.trans hx118_0); rw [hv118_0] at ge118_0; have HL118_0 := Aside0.mk (show Kd.R (Kd.int .i64) 3 _ _ _ _ (rd_L2 t111 1) from ge118_0); clear hv118_0 ge118_0; clear hcc118 hce118; (try simp only [show (1 : Int).toNat = 1 from rfl, Nat.reduceMul, Nat.reduceEqDiff, Go.Addr.add, ↓reduceIte] at hx118_0); have qi118 : (1 < t111.length) = True := eq_true (by omega); (try rw [show ((1 : Int)).toNat = 1 from rfl] at hx118_0); have HR118_0 := Aside0.mk hi118_0; have HC118_0 := Aside0.mk hl118_0; clear hi118_0 hl118_0; replace p118 := eq_true p118; replace q118 := eq_true q118))
                  go_ret
                  exact ⟨by first | rfl | (simp [errW_none, errW_some] <;> rfl) | (simp [*, errW_none, errW_some] <;> rfl), by repeat (first | (with_reducible first | exact HB.out | apply below_alloc | apply pw_below_drewN | apply below_drew1) | exact HB.out)⟩
              · rw [if_neg c8] at H
                exact absurd H (by simp)
            · rw [if_neg c7] at H
              have c7b0 : ((rd (rd_L2 t111 0) 1) == (-2)) = false := beq_eq_false_iff_ne.mpr c7
              have c7b1 : ((rd (rd_L2 t111 0) 1) != (-2)) = true := bne_iff_ne.mpr c7
              obtain rfl := Option.some.inj H
              obtain ⟨hy_⟩ := Ny108
              subst hy_
              have kc := fun (W : World) (C : Array Value) (n c : Nat) => Lib.run_convert_bytes_const (P := Tryd.prog) W 25 5 C n c Tryd.underlying25 Tryd.underlying5
              go_enter Tryd.func8, Tryd.ntmps8
              go_wp2_with (first | ((with_reducible refine gate_callee (f := 12) rfl ?_); refine goesL_ (some 6) rfl rfl Tryd.func12 (by kernel_rfl) rfl #[.slice (some ⟨w.heap.size, 0, none⟩) 14 14] rfl (by (try simp only [List.map_toArray, List.map_cons, List.map_nil]); first | done | rfl | (simp only [List.length_drop, List.length_take]; rfl)) ?_; (refine (scan_Lines.calls (some ⟨w.heap.size, 0, none⟩) 14 ([49, 32, 45, 50, 32, 32, 35, 32, 120, 10, 10, 48, 48, 55] : List Int) t111 t112 _ ?side1 ?side2 A1.out).mono ?_); (case side1 => exact haulierlaw04_awake.lit_C w); (case side2 => exact Nat.le_refl _); rintro e w24 ⟨v113, rfl, ho0, hb⟩; refine ⟨_, rfl, ?_⟩; have n1_ := Aside0.mk (Kd.S_lower ho0 (below_size (by repeat (first | (with_reducible first | exact HB.out | apply below_alloc | apply pw_below_drewN | apply below_drew1) | exact HB.out)))); have n2_ := Aside0.mk (below_step (by repeat (first | (with_reducible first | exact HB.out | apply below_alloc | apply pw_below_drewN | apply below_drew1) | exact HB.out)) hb); clear HB; have HO114 := n1_; have HB := n2_; clear n1_ n2_; (try clear hb); (try clear hb2); (try clear hk); (try clear hi); (try clear ho0); obtain ⟨Ao25, co25, eo25⟩ := Kd.S_slice HO114.out; subst eo25; have p115 : 0 ≤ (0 : Int) := (by omega); have q115 : 0 < (t111.length : Int) := of_decide_eq_true (by first | (with_reducible assumption) | assumption); obtain ⟨ad115, A115_0, c115_0, e115, hx115_0, hl115_0, hi115_0⟩ := at_L2 (Kd.S_reads' HO114.out).2.2 0 p115 q115; cases e115; obtain ⟨ce115, hce115, hMe115, hcc115⟩ := Kd.S_get HO114.out [] 0 p115 (by first | exact q115 | exact of_decide_eq_true (by first | (with_reducible assumption) | assumption) | (have e_ := (Kd.S_reads' HO114.out).1; omega)); obtain ⟨ve115_0, rfl, ge115_0⟩ := hMe115; have hv115_0 := hcc115 0 _ rfl; rw [Nat.add_zero, show ((Kd.slice 3 (Kd.int .i64))).sz = 1 from rfl, Nat.mul_one] at hv115_0; replace hv115_0 := Option.some.inj (hv115_0.symm.trans hx115_0); rw [hv115_0] at ge115_0; have HL115_0 := Aside0.mk (show Kd.R (Kd.int .i64) 3 _ _ _ _ (rd_L2 t111 0) from ge115_0); clear hv115_0 ge115_0; clear hcc115 hce115; have qi115 : (0 < t111.length) = True := eq_true (by omega); (try rw [show ((0 : Int)).toNat = 0 from rfl] at hx115_0); (try rw [Addr.add_zero'] at hx115_0); have HR115_0 := Aside0.mk hi115_0; have HC115_0 := Aside0.mk hl115_0; clear hi115_0 hl115_0; replace p115 := eq_true p115; replace q115 := eq_true q115; have p116 : 0 ≤ (0 : Int) := (by omega); have q116 : 0 < (t111.length : Int) := of_decide_eq_true (by first | (with_reducible assumption) | assumption); obtain ⟨ad116, A116_0, c116_0, e116, hx116_0, hl116_0, hi116_0⟩ := at_L2 (Kd.S_reads' HO114.out).2.2 0 p116 q116; obtain rfl : ad115 = ad116 := (by injection e116); obtain ⟨ce116, hce116, hMe116, hcc116⟩ := Kd.S_get HO114.out [] 0 p116 (by first | exact q116 | exact of_decide_eq_true (by first | (with_reducible assumption) | assumption) | (have e_ := (Kd.S_reads' HO114.out).1; omega)); obtain ⟨ve116_0, rfl, ge116_0⟩ := hMe116; have hv116_0 := hcc116 0 _ rfl; rw [Nat.add_zero, show ((Kd.slice 3 (Kd.int .i64))).sz = 1 from rfl, Nat.mul_one] at hv116_0; replace hv116_0 := Option.some.inj (hv116_0.symm.trans hx116_0); rw [hv116_0] at ge116_0; have HL116_0 := Aside0.mk (show Kd.R (Kd.int .i64) 3 _ _ _ _ (rd_L2 t111 0) from ge116_0); clear hv116_0 ge116_0; clear hcc116 hce116; have qi116 : (0 < t111.length) = True := eq_true (by omega); (try rw [show ((0 : Int)).toNat = 0 from rfl] at hx116_0); (try rw [Addr.add_zero'] at hx116_0); have HR116_0 := Aside0.mk hi116_0; have HC116_0 := Aside0.mk hl116_0; clear hi116_0 hl116_0; replace p116 := eq_true p116; replace q116 := eq_true q116; have ea_ := Option.some.inj (hx115_0.symm.trans hx116_0); injection ea_ with ea_ en_ ec_; subst ea_; subst ec_; clear en_; have p117 : 0 ≤ (1 : Int) := (by omega); have q117 : 1 < ((rd_L2 t111 0).length : Int) := of_decide_eq_true (by first | (with_reducible assumption) | assumption); obtain ⟨ad117, e117, hx117_0⟩ := Kd.at_int (by repeat (first | (with_reducible exact HR116_0.out) | (with_reducible refine Kd.C_alloc ?_ _) | (with_reducible refine Kd.C_drewN ?_ _) | (with_reducible refine Kd.C_drew ?_) | exact HR116_0.out)) 1 p117 q117; cases e117; (try simp only [show (1 : Int).toNat = 1 from rfl, Nat.reduceMul, Nat.reduceEqDiff, Go.Addr.add, ↓reduceIte] at hx117_0); have qi117 : (1 < (rd_L2 t111 0).length) = True := eq_true (by omega); (try rw [show ((1 : Int)).toNat = 1 from rfl] at hx117_0); replace p117 := eq_true p117; replace q117 := eq_true q117))
              go_ret
              exact ⟨by first | rfl | (simp [errW_none, errW_some] <;> rfl) | (simp [*, errW_none, errW_some] <;> rfl), by repeat (first | (with_reducible first | exact HB.out | apply below_alloc | apply pw_below_drewN | apply below_drew1) | exact HB.out)⟩
          · rw [if_neg c6] at H
            exact absurd H (by simp)
        · rw [if_neg c5] at H
          have c5b0 : (((rd_L2 t111 0).length : Int) == 2) = false := beq_eq_false_iff_ne.mpr c5
          have c5b1 : (((rd_L2 t111 0).length : Int) != 2) = true := bne_iff_ne.mpr c5
          obtain rfl := Option.some.inj H
          obtain ⟨hy_⟩ := Ny108
          subst hy_
          have kc := fun (W : World) (C : Array Value) (n c : Nat) => Lib.run_convert_bytes_const (P := Tryd.prog) W 25 5 C n c Tryd.underlying25 Tryd.underlying5
          go_enter Tryd.func8, Tryd.ntmps8
          go_wp2_with (first | ((with_reducible refine gate_callee (f := 12) rfl ?_); refine goesL_ (some 6) rfl rfl Tryd.func12 (by kernel_rfl) rfl #[.slice (some ⟨w.heap.size, 0, none⟩) 14 14] rfl (by (try simp only [List.map_toArray, List.map_cons, List.map_nil]); first | done | rfl | (simp only [List.length_drop, List.length_take]; rfl)) ?_; (refine (scan_Lines.calls (some ⟨w.heap.size, 0, none⟩) 14 ([49, 32, 45, 50, 32, 32, 35, 32, 120, 10, 10, 48, 48, 55] : List Int) t111 t112 _ ?side1 ?side2 A1.out).mono ?_); (case side1 => exact haulierlaw04_awake.lit_C w); (case side2 => exact Nat.le_refl _); rintro e w29 ⟨v113, rfl, ho0, hb⟩; refine ⟨_, rfl, ?_⟩; have n1_ := Aside0.mk (Kd.S_lower ho0 (below_size (by repeat (first | (with_reducible first | exact HB.out | apply below_alloc | apply pw_below_drewN | apply below_drew1) | exact HB.out)))); have n2_ := Aside0.mk (below_step (by repeat (first | (with_reducible first | exact HB.out | apply below_alloc | apply pw_below_drewN | apply below_drew1) | exact HB.out)) hb); clear HB; have HO114 := n1_; have HB := n2_; clear n1_ n2_; (try clear hb); (try clear hb2); (try clear hk); (try clear hi); (try clear ho0); obtain ⟨Ao30, co30, eo30⟩ := Kd.S_slice HO114.out; subst eo30; have p115 : 0 ≤ (0 : Int) := (by omega); have q115 : 0 < (t111.length : Int) := of_decide_eq_true (by first | (with_reducible assumption) | assumption); obtain ⟨ad115, A115_0, c115_0, e115, hx115_0, hl115_0, hi115_0⟩ := at_L2 (Kd.S_reads' HO114.out).2.2 0 p115 q115; cases e115; obtain ⟨ce115, hce115, hMe115, hcc115⟩ := Kd.S_get HO114.out [] 0 p115 (by first | exact q115 | exact of_decide_eq_true (by first | (with_reducible assumption) | assumption) | (have e_ := (Kd.S_reads' HO114.out).1; omega)); obtain ⟨ve115_0, rfl, ge115_0⟩ := hMe115; have hv115_0 := hcc115 0 _ rfl; rw [Nat.add_zero, show ((Kd.slice 3 (Kd.int .i64))).sz = 1 from rfl, Nat.mul_one] at hv115_0; replace hv115_0 := Option.some.inj (hv115_0.symm.trans hx115_0); rw [hv115_0] at ge115_0; have HL115_0 := Aside0.mk (show Kd.R (Kd.int .i64) 3 _ _ _ _ (rd_L2 t111 0) from ge115_0); clear hv115_0 ge115_0; clear hcc115 hce115; have qi115 : (0 < t111.length) = True := eq_true (by omega); (try rw [show ((0 : Int)).toNat = 0 from rfl] at hx115_0); (try rw [Addr.add_zero'] at hx115_0); have HR115_0 := Aside0.mk hi115_0; have HC115_0 := Aside0.mk hl115_0; clear hi115_0 hl115_0; replace p115 := eq_true p115; replace q115 := eq_true q115))
          go_ret
          exact ⟨by first | rfl | (simp [errW_none, errW_some] <;> rfl) | (simp [*, errW_none, errW_some] <;> rfl), by repeat (first | (with_reducible first | exact HB.out | apply below_alloc | apply pw_below_drewN | apply below_drew1) | exact HB.out)⟩
      · rw [if_neg c4] at H
        exact absurd H (by simp)
    · rw [if_neg c3] at H
      have c3b0 : ((t111.length : Int) == 2) = false := beq_eq_false_iff_ne.mpr c3
      have c3b1 : ((t111.length : Int) != 2) = true := bne_iff_ne.mpr c3
      obtain rfl := Option.some.inj H
      obtain ⟨hy_⟩ := Ny108
      subst hy_
      have kc := fun (W : World) (C : Array Value) (n c : Nat) => Lib.run_convert_bytes_const (P := Tryd.prog) W 25 5 C n c Tryd.underlying25 Tryd.underlying5
      go_enter Tryd.func8, Tryd.ntmps8
      go_wp2_with (first | ((with_reducible refine gate_callee (f := 12) rfl ?_); refine goesL_ (some 6) rfl rfl Tryd.func12 (by kernel_rfl) rfl #[.slice (some ⟨w.heap.size, 0, none⟩) 14 14] rfl (by (try simp only [List.map_toArray, List.map_cons, List.map_nil]); first | done | rfl | (simp only [List.length_drop, List.length_take]; rfl)) ?_; (refine (scan_Lines.calls (some ⟨w.heap.size, 0, none⟩) 14 ([49, 32, 45, 50, 32, 32, 35, 32, 120, 10, 10, 48, 48, 55] : List Int) t111 t112 _ ?side1 ?side2 A1.out).mono ?_); (case side1 => exact haulierlaw04_awake.lit_C w); (case side2 => exact Nat.le_refl _); rintro e w34 ⟨v113, rfl, ho0, hb⟩; refine ⟨_, rfl, ?_⟩; have n1_ := Aside0.mk (Kd.S_lower ho0 (below_size (by repeat (first | (with_reducible first | exact HB.out | apply below_alloc | apply pw_below_drewN | apply below_drew1) | exact HB.out)))); have n2_ := Aside0.mk (below_step (by repeat (first | (with_reducible first | exact HB.out | apply below_alloc | apply pw_below_drewN | apply below_drew1) | exact HB.out)) hb); clear HB; have HO114 := n1_; have HB := n2_; clear n1_ n2_; (try clear hb); (try clear hb2); (try clear hk); (try clear hi); (try clear ho0); obtain ⟨Ao35, co35, eo35⟩ := Kd.S_slice HO114.out; subst eo35))
      go_ret
      exact ⟨by first | rfl | (simp [errW_none, errW_some] <;> rfl) | (simp [*, errW_none, errW_some] <;> rfl), by repeat (first | (with_reducible first | exact HB.out | apply below_alloc | apply pw_below_drewN | apply below_drew1) | exact HB.out)⟩
  · rw [if_neg c2] at H
    have c2b0 : (t112 == 0) = false := beq_eq_false_iff_ne.mpr c2
    have c2b1 : (t112 != 0) = true := bne_iff_ne.mpr c2
    obtain rfl := Option.some.inj H
    obtain ⟨hy_⟩ := Ny108
    subst hy_
    have kc := fun (W : World) (C : Array Value) (n c : Nat) => Lib.run_convert_bytes_const (P := Tryd.prog) W 25 5 C n c Tryd.underlying25 Tryd.underlying5
    go_enter Tryd.func8, Tryd.ntmps8
    go_wp2_with (first | ((with_reducible refine gate_callee (f := 12) rfl ?_); refine goesL_ (some 6) rfl rfl Tryd.func12 (by kernel_rfl) rfl #[.slice (some ⟨w.heap.size, 0, none⟩) 14 14] rfl (by (try simp only [List.map_toArray, List.map_cons, List.map_nil]); first | done | rfl | (simp only [List.length_drop, List.length_take]; rfl)) ?_; (refine (scan_Lines.calls (some ⟨w.heap.size, 0, none⟩) 14 ([49, 32, 45, 50, 32, 32, 35, 32, 120, 10, 10, 48, 48, 55] : List Int) t111 t112 _ ?side1 ?side2 A1.out).mono ?_); (case side1 => exact haulierlaw04_awake.lit_C w); (case side2 => exact Nat.le_refl _); rintro e w39 ⟨v113, rfl, ho0, hb⟩; refine ⟨_, rfl, ?_⟩; have n1_ := Aside0.mk (Kd.S_lower ho0 (below_size (by repeat (first | (with_reducible first | exact HB.out | apply below_alloc | apply pw_below_drewN | apply below_drew1) | exact HB.out)))); have n2_ := Aside0.mk (below_step (by repeat (first | (with_reducible first | exact HB.out | apply below_alloc | apply pw_below_drewN | apply below_drew1) | exact HB.out)) hb); clear HB; have HO114 := n1_; have HB := n2_; clear n1_ n2_; (try clear hb); (try clear hb2); (try clear hk); (try clear hi); (try clear ho0)))
    go_ret
    exact ⟨by first | rfl | (simp [errW_none, errW_some] <;> rfl) | (simp [*, errW_none, errW_some] <;> rfl), by repeat (first | (with_reducible first | exact HB.out | apply below_alloc | apply pw_below_drewN | apply below_drew1) | exact HB.out)⟩

end Go.Proofs.YtdmlohoicgfdnaaDoor.PA
