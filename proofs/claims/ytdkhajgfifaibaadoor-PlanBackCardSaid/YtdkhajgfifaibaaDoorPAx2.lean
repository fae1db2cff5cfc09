-- Printed for this claim by wip/tools/xprint.py over the kit's print; the contracts marked BY HAND are this session's own.
import Derived.Test.YtdkhajgfifaibaaDoorPAx0
import Derived.Test.YtdkhajgfifaibaaDoorPAx1
namespace Go.Proofs.YtdkhajgfifaibaaDoor.PA
open Go.RowKit Go.Proofs.YtdkhajgfifaibaaDoorW.PrintWords Go.Proofs.YtdkhajgfifaibaaDoorW.PrintLast Go.Proofs.YtdkhajgfifaibaaDoorW.PrintMore
attribute [local go_sem] max2_int min2_int max_two min_two max_three min_three max_four min_four   -- for this text's walks alone
set_option linter.unusedVariables false
set_option linter.unusedSimpArgs false

/-! ### slices_symMergeCmpFunc_int: function 51, BY HAND -/

section
open Go.Shelf Go.Lib Go.Sort
set_option maxHeartbeats 16000000 in
set_option maxRecDepth 1000000 in
theorem symMerge_l {α : Type} [Inhabited α] (enc : α → Value) (cf : α → α → Int) (ls : α → α → Bool) (ix : α → Nat) (g : Nat) (cb : Array Value) (blk off cap : Nat) (d0 : Array α) (w0 : World)
    (eg : ∀ args w, (callFunc g args).run Tryd.prog w = .ok (.enter g args) w) (hcmp : CmpLays1 Tryd.prog g cb enc cf blk off d0.size w0) (R : Row1 enc w0 blk off d0) (hS : SWO ls) (hl : ∀ x y, ix x < ix y → ltOf cf y x = ls y x) (hsz : d0.size < 4611686018427387904)
    (a m b : Nat) (d : Array α) (w : World) (hs : d0.size = d.size) (S : SW enc w0 blk off d w) (ham : a < m) (hmb : m < b) (hb : b ≤ d.size) (hL : SortedIn ls a m d) (hR : SortedIn ls m b d) (hX : CrossIn ix a m b d) (h1 : m = a + 1) :
    Calls Tryd.prog 51 #[.slice (some ⟨blk, off, none⟩) d.size cap, .int .i64 a, .int .i64 m, .int .i64 b, .func (.func g) #[] cb] w fun e w' => e = .returned (.tuple #[]) ∧ ∃ d', PermIn a b d d' ∧ SortedIn ls a b d' ∧ SW enc w0 blk off d' w' := by
  have hcl0 := R.hO.cells
  simp only [Value.cells] at hcl0
  have hst := R.hO.store Tryd.prog
  have mixed : Tryd.prog.follows Departure.mixedOrders = true := by kernel_rfl
  have HC : Aside _ := hcmp
  have S0 : Aside (SW enc w0 blk off d w) := S
  have HL := hidS hl
  have HLs := hidS hL
  have HRs := hidS hR
  have HX := hidS hX
  have HO := hidS hS
  clear S hcmp hl hL hR hX hS
  have em : (m : Int) - (a : Int) = 1 := by omega
  have hm1 := hidS h1
  clear h1
  go_enter Tryd.func51, Tryd.ntmps51
  go_wp2
  go_loopg [10, 11] (b - m) (fun kx s10 s11 wr => ∃ i j : Nat, s10 = .int .i64 i ∧ s11 = .int .i64 j ∧ m ≤ i ∧ i ≤ j ∧ j ≤ b ∧ j - i ≤ kx ∧ Aside (SW enc w0 blk off d wr) ∧ Hid ((i = m ∨ ls d[i - 1]! d[a]! = true) ∧ (j = b ∨ ls d[j]! d[a]! = false)))
  case atStart => exact ⟨m, b, rfl, rfl, Nat.le_refl _, by omega, Nat.le_refl _, Nat.le_refl _, S0, hidS ⟨Or.inl rfl, Or.inl rfl⟩⟩
  case round =>
    clear S0
    obtain ⟨i, j, rfl, rfl, hmi, hij, hjb, hkx, S1, HI⟩ := hrel
    by_cases hlt : i < j
    · have hlt' : (i : Int) < (j : Int) := by omega
      obtain ⟨h, hh⟩ : ∃ h, h = (i + j) / 2 := ⟨_, rfl⟩
      have eh : ((i : Int) + (j : Int)) / 2 = (h : Int) := by omega
      have hih : i ≤ h := by omega
      have hhj : h < j := by omega
      clear hh
      cases hlv : ltOf cf d[h]! d[a]! with
      | true =>
        obtain ⟨iN102, hiN102⟩ : ∃ q_, q_ = h := ⟨_, rfl⟩
        obtain ⟨jN102, hjN102⟩ : ∃ q_, q_ = a := ⟨_, rfl⟩
        have ea102 : ((h : Int)).toNat = iN102 := by omega
        have pa102 : (0 : Int) ≤ (h : Int) := by omega
        have ba102 : (h : Int) < (d.size : Int) := by omega
        have ra102 : IntKind.i64.wrap ((h : Int)) = (h : Int) := by rw [IntKind.wrap_i64]; omega
        have ec102 : ((a : Int)).toNat = jN102 := by omega
        have pc102 : (0 : Int) ≤ (a : Int) := by omega
        have bc102 : (a : Int) < (d.size : Int) := by omega
        have rc102 : IntKind.i64.wrap ((a : Int)) = (a : Int) := by rw [IntKind.wrap_i64]; omega
        obtain ⟨x102, hx102⟩ : ∃ x, x = d[h]! := ⟨_, rfl⟩
        obtain ⟨y102, hy102⟩ : ∃ x, x = d[a]! := ⟨_, rfl⟩
        have l102a := S1.out.cl R (by omega) (h) (by omega)
        have l102b := S1.out.cl R (by omega) (a) (by omega)
        rw [← hx102, ← hiN102] at l102a
        rw [← hy102, ← hjN102] at l102b
        have hc102 := S1.out.cmp HC.out (by omega) x102 y102
        have hv102 : cf x102 y102 < 0 := by rw [hx102, hy102]; exact of_decide_eq_true hlv
        have hd102 : decide (cf x102 y102 < 0) = true := decide_eq_true hv102
        clear hx102 hy102 hiN102 hjN102
        go_wp2_with fail
        go_quiet_grown (first | (go_at_fn g; refine Calls.grown_of (hc102 _ _)))
        have S2 : Aside (SW enc w0 blk off d (grow (wr.drewN nq) osq)) := S1.out.grown nq osq
        clear l102a l102b hc102 S1
        generalize grow (wr.drewN nq) osq = w2 at S2 ⊢
        clear nq osq
        clear ea102 ec102
        go_wp2
        go_roundg (j - (h + 1))
        case measure => omega
        case rel => exact ⟨h + 1, j, by first | rfl | go_num, rfl, by omega, by omega, hjb, Nat.le_refl _, S2, hidS ⟨Or.inr (by rw [Nat.add_sub_cancel, ← HL.out _ _ (HX.out a h (Nat.le_refl _) ham (by omega) (by omega))]; exact hlv), HI.out.2⟩⟩
      | false =>
        obtain ⟨iN103, hiN103⟩ : ∃ q_, q_ = h := ⟨_, rfl⟩
        obtain ⟨jN103, hjN103⟩ : ∃ q_, q_ = a := ⟨_, rfl⟩
        have ea103 : ((h : Int)).toNat = iN103 := by omega
        have pa103 : (0 : Int) ≤ (h : Int) := by omega
        have ba103 : (h : Int) < (d.size : Int) := by omega
        have ra103 : IntKind.i64.wrap ((h : Int)) = (h : Int) := by rw [IntKind.wrap_i64]; omega
        have ec103 : ((a : Int)).toNat = jN103 := by omega
        have pc103 : (0 : Int) ≤ (a : Int) := by omega
        have bc103 : (a : Int) < (d.size : Int) := by omega
        have rc103 : IntKind.i64.wrap ((a : Int)) = (a : Int) := by rw [IntKind.wrap_i64]; omega
        obtain ⟨x103, hx103⟩ : ∃ x, x = d[h]! := ⟨_, rfl⟩
        obtain ⟨y103, hy103⟩ : ∃ x, x = d[a]! := ⟨_, rfl⟩
        have l103a := S1.out.cl R (by omega) (h) (by omega)
        have l103b := S1.out.cl R (by omega) (a) (by omega)
        rw [← hx103, ← hiN103] at l103a
        rw [← hy103, ← hjN103] at l103b
        have hc103 := S1.out.cmp HC.out (by omega) x103 y103
        have hv103 : ¬ cf x103 y103 < 0 := by rw [hx103, hy103]; exact of_decide_eq_false hlv
        have hd103 : decide (cf x103 y103 < 0) = false := decide_eq_false hv103
        clear hx103 hy103 hiN103 hjN103
        go_wp2_with fail
        go_quiet_grown (first | (go_at_fn g; refine Calls.grown_of (hc103 _ _)))
        have S2 : Aside (SW enc w0 blk off d (grow (wr.drewN nq) osq)) := S1.out.grown nq osq
        clear l103a l103b hc103 S1
        generalize grow (wr.drewN nq) osq = w2 at S2 ⊢
        clear nq osq
        clear ea103 ec103
        go_wp2
        go_roundg (h - i)
        case measure => omega
        case rel => exact ⟨i, h, rfl, rfl, hmi, hih, by omega, Nat.le_refl _, S2, hidS ⟨HI.out.1, Or.inr (by rw [← HL.out _ _ (HX.out a h (Nat.le_refl _) ham (by omega) (by omega))]; exact hlv)⟩⟩
    · obtain rfl : i = j := by omega
      have hlt' : ¬ (i : Int) < (i : Int) := by omega
      go_wp2
      go_loopg [13] (i - 1 - a) (fun kx s13 wr => ∃ (k : Nat) (dk : Array α), s13 = .int .i64 k ∧ a ≤ k ∧ k ≤ i - 1 ∧ i - 1 - k ≤ kx ∧ dk.size = d.size ∧ Aside (SW enc w0 blk off dk wr) ∧ Hid (∀ d', Rot k (k + 1) i dk d' → Rot a m i d d'))
      case atStart => exact ⟨a, d, rfl, Nat.le_refl _, by omega, Nat.le_refl _, rfl, S1, hidS (fun d' h => by rw [hm1.out]; exact h)⟩
      case round =>
        clear S1
        obtain ⟨k, dk, rfl, hak, hki, hkx2, hds, S1, heq⟩ := hrel
        by_cases hk : k < i - 1
        · have hk' : (k : Int) < (i : Int) - 1 := by omega
          go_wp2_with fail
          obtain ⟨iN104, hiN104⟩ : ∃ q_, q_ = k := ⟨_, rfl⟩
          obtain ⟨jN104, hjN104⟩ : ∃ q_, q_ = k + 1 := ⟨_, rfl⟩
          have ea104 : ((k : Int)).toNat = iN104 := by omega
          have pa104 : (0 : Int) ≤ (k : Int) := by omega
          have ba104 : (k : Int) < (d.size : Int) := by omega
          have ra104 : IntKind.i64.wrap ((k : Int)) = (k : Int) := by rw [IntKind.wrap_i64]; omega
          have ec104 : ((k : Int) + 1).toNat = jN104 := by omega
          have pc104 : (0 : Int) ≤ (k : Int) + 1 := by omega
          have bc104 : (k : Int) + 1 < (d.size : Int) := by omega
          have rc104 : IntKind.i64.wrap ((k : Int) + 1) = (k : Int) + 1 := by rw [IntKind.wrap_i64]; omega
          obtain ⟨x104, hx104⟩ : ∃ x, x = dk[k]! := ⟨_, rfl⟩
          obtain ⟨y104, hy104⟩ : ∃ x, x = dk[k + 1]! := ⟨_, rfl⟩
          have S2 : Aside (SW enc w0 blk off (swp dk (k) (k + 1)) ((wr.setCell ⟨blk, off + iN104, none⟩ (enc y104)).setCell ⟨blk, off + jN104, none⟩ (enc x104)).drew) := by rw [hiN104, hjN104, hx104, hy104]; exact S1.out.swapped R (k) (k + 1) (by omega) (by omega)
          have c104a := S1.out.c1 R (by omega) (k) (by omega)
          have c104b := S1.out.c1 R (by omega) (k + 1) (by omega)
          have f104a := S1.out.f1 R (by omega) (k) (by omega)
          have f104b := S1.out.f1 R (by omega) (k + 1) (by omega)
          obtain ⟨u104, c104c⟩ := S1.out.c2 R (by omega) (k) (k + 1) (by omega) (by omega) (enc y104)
          rw [← hjN104, ← hiN104] at c104c
          rw [← hx104, ← hiN104] at c104a
          rw [← hy104, ← hjN104] at c104b
          rw [← hiN104] at f104a
          rw [← hjN104] at f104b
          clear S1 hx104 hy104 hiN104 hjN104
          go_wp2_with fail
          go_big_region_o
          clear c104a c104b c104c f104a f104b
          generalize ((wr.setCell ⟨blk, off + iN104, none⟩ (enc y104)).setCell ⟨blk, off + jN104, none⟩ (enc x104)).drew = w2 at S2 ⊢
          clear ea104 ec104
          go_wp2
          go_roundg (i - 1 - (k + 1))
          case measure => omega
          case rel => exact ⟨k + 1, _, by first | rfl | go_num, by omega, by omega, Nat.le_refl _, by rw [size_swp]; exact hds, S2, hidS (fun d' h => heq.out d' (rot_up k i dk d' (by omega) (by omega) h))⟩
        · have hk' : ¬ (k : Int) < (i : Int) - 1 := by omega
          have ek : k + 1 = i := by omega
          go_wp2
          (try simp only [Exit.inBlock, Exit.then]); refine bodyPost_ret (results_none rfl _ _ _) rfl ?_
          have hr := heq.out dk (by rw [ek]; exact rot_none_r k i dk)
          have M := merge_l HO.out hm1.out hmi hjb hb HRs.out HX.out HI.out.1 HI.out.2 hr
          exact ⟨rfl, dk, M.1, M.2, S1.out⟩
end

section
open Go.Shelf Go.Lib Go.Sort
set_option maxHeartbeats 16000000 in
set_option maxRecDepth 1000000 in
theorem symMerge_r {α : Type} [Inhabited α] (enc : α → Value) (cf : α → α → Int) (ls : α → α → Bool) (ix : α → Nat) (g : Nat) (cb : Array Value) (blk off cap : Nat) (d0 : Array α) (w0 : World)
    (eg : ∀ args w, (callFunc g args).run Tryd.prog w = .ok (.enter g args) w) (hcmp : CmpLays1 Tryd.prog g cb enc cf blk off d0.size w0) (R : Row1 enc w0 blk off d0) (hS : SWO ls) (hl : ∀ x y, ix x < ix y → ltOf cf y x = ls y x) (hsz : d0.size < 4611686018427387904)
    (a m b : Nat) (d : Array α) (w : World) (hs : d0.size = d.size) (S : SW enc w0 blk off d w) (ham : a < m) (hmb : m < b) (hb : b ≤ d.size) (hL : SortedIn ls a m d) (hR : SortedIn ls m b d) (hX : CrossIn ix a m b d) (h0 : m ≠ a + 1) (h1 : b = m + 1) :
    Calls Tryd.prog 51 #[.slice (some ⟨blk, off, none⟩) d.size cap, .int .i64 a, .int .i64 m, .int .i64 b, .func (.func g) #[] cb] w fun e w' => e = .returned (.tuple #[]) ∧ ∃ d', PermIn a b d d' ∧ SortedIn ls a b d' ∧ SW enc w0 blk off d' w' := by
  have hcl0 := R.hO.cells
  simp only [Value.cells] at hcl0
  have hst := R.hO.store Tryd.prog
  have mixed : Tryd.prog.follows Departure.mixedOrders = true := by kernel_rfl
  have HC : Aside _ := hcmp
  have S0 : Aside (SW enc w0 blk off d w) := S
  have HL := hidS hl
  have HLs := hidS hL
  have HRs := hidS hR
  have HX := hidS hX
  have HO := hidS hS
  clear S hcmp hl hL hR hX hS
  have em0 : ¬ (m : Int) - (a : Int) = 1 := by omega
  have em00 : ((m : Int) - (a : Int) == 1) = false := beq_eq_false_iff_ne.2 em0
  have em : (b : Int) - (m : Int) = 1 := by omega
  have hm1 := hidS h1
  clear h1 h0
  go_enter Tryd.func51, Tryd.ntmps51
  go_wp2
  go_loopg [14, 15] (m - a) (fun kx s10 s11 wr => ∃ i j : Nat, s10 = .int .i64 i ∧ s11 = .int .i64 j ∧ a ≤ i ∧ i ≤ j ∧ j ≤ m ∧ j - i ≤ kx ∧ Aside (SW enc w0 blk off d wr) ∧ Hid ((i = a ∨ ls d[m]! d[i - 1]! = false) ∧ (j = m ∨ ls d[m]! d[j]! = true)))
  case atStart => exact ⟨a, m, rfl, rfl, Nat.le_refl _, by omega, Nat.le_refl _, Nat.le_refl _, S0, hidS ⟨Or.inl rfl, Or.inl rfl⟩⟩
  case round =>
    clear S0
    obtain ⟨i, j, rfl, rfl, hai, hij, hjm, hkx, S1, HI⟩ := hrel
    by_cases hlt : i < j
    · have hlt' : (i : Int) < (j : Int) := by omega
      obtain ⟨h, hh⟩ : ∃ h, h = (i + j) / 2 := ⟨_, rfl⟩
      have eh : ((i : Int) + (j : Int)) / 2 = (h : Int) := by omega
      have hih : i ≤ h := by omega
      have hhj : h < j := by omega
      clear hh
      cases hlv : ltOf cf d[m]! d[h]! with
      | true =>
        obtain ⟨iN105, hiN105⟩ : ∃ q_, q_ = m := ⟨_, rfl⟩
        obtain ⟨jN105, hjN105⟩ : ∃ q_, q_ = h := ⟨_, rfl⟩
        have ea105 : ((m : Int)).toNat = iN105 := by omega
        have pa105 : (0 : Int) ≤ (m : Int) := by omega
        have ba105 : (m : Int) < (d.size : Int) := by omega
        have ra105 : IntKind.i64.wrap ((m : Int)) = (m : Int) := by rw [IntKind.wrap_i64]; omega
        have ec105 : ((h : Int)).toNat = jN105 := by omega
        have pc105 : (0 : Int) ≤ (h : Int) := by omega
        have bc105 : (h : Int) < (d.size : Int) := by omega
        have rc105 : IntKind.i64.wrap ((h : Int)) = (h : Int) := by rw [IntKind.wrap_i64]; omega
        obtain ⟨x105, hx105⟩ : ∃ x, x = d[m]! := ⟨_, rfl⟩
        obtain ⟨y105, hy105⟩ : ∃ x, x = d[h]! := ⟨_, rfl⟩
        have l105a := S1.out.cl R (by omega) (m) (by omega)
        have l105b := S1.out.cl R (by omega) (h) (by omega)
        rw [← hx105, ← hiN105] at l105a
        rw [← hy105, ← hjN105] at l105b
        have hc105 := S1.out.cmp HC.out (by omega) x105 y105
        have hv105 : cf x105 y105 < 0 := by rw [hx105, hy105]; exact of_decide_eq_true hlv
        have hd105 : decide (cf x105 y105 < 0) = true := decide_eq_true hv105
        clear hx105 hy105 hiN105 hjN105
        go_wp2_with fail
        go_quiet_grown (first | (go_at_fn g; refine Calls.grown_of (hc105 _ _)))
        have S2 : Aside (SW enc w0 blk off d (grow (wr.drewN nq) osq)) := S1.out.grown nq osq
        clear l105a l105b hc105 S1
        generalize grow (wr.drewN nq) osq = w2 at S2 ⊢
        clear nq osq
        clear ea105 ec105
        go_wp2
        go_roundg (h - i)
        case measure => omega
        case rel => exact ⟨i, h, rfl, rfl, hai, hih, by omega, Nat.le_refl _, S2, hidS ⟨HI.out.1, Or.inr (by rw [← HL.out _ _ (HX.out h m (by omega) (by omega) (Nat.le_refl _) hmb)]; exact hlv)⟩⟩
      | false =>
        obtain ⟨iN106, hiN106⟩ : ∃ q_, q_ = m := ⟨_, rfl⟩
        obtain ⟨jN106, hjN106⟩ : ∃ q_, q_ = h := ⟨_, rfl⟩
        have ea106 : ((m : Int)).toNat = iN106 := by omega
        have pa106 : (0 : Int) ≤ (m : Int) := by omega
        have ba106 : (m : Int) < (d.size : Int) := by omega
        have ra106 : IntKind.i64.wrap ((m : Int)) = (m : Int) := by rw [IntKind.wrap_i64]; omega
        have ec106 : ((h : Int)).toNat = jN106 := by omega
        have pc106 : (0 : Int) ≤ (h : Int) := by omega
        have bc106 : (h : Int) < (d.size : Int) := by omega
        have rc106 : IntKind.i64.wrap ((h : Int)) = (h : Int) := by rw [IntKind.wrap_i64]; omega
        obtain ⟨x106, hx106⟩ : ∃ x, x = d[m]! := ⟨_, rfl⟩
        obtain ⟨y106, hy106⟩ : ∃ x, x = d[h]! := ⟨_, rfl⟩
        have l106a := S1.out.cl R (by omega) (m) (by omega)
        have l106b := S1.out.cl R (by omega) (h) (by omega)
        rw [← hx106, ← hiN106] at l106a
        rw [← hy106, ← hjN106] at l106b
        have hc106 := S1.out.cmp HC.out (by omega) x106 y106
        have hv106 : ¬ cf x106 y106 < 0 := by rw [hx106, hy106]; exact of_decide_eq_false hlv
        have hd106 : decide (cf x106 y106 < 0) = false := decide_eq_false hv106
        clear hx106 hy106 hiN106 hjN106
        go_wp2_with fail
        go_quiet_grown (first | (go_at_fn g; refine Calls.grown_of (hc106 _ _)))
        have S2 : Aside (SW enc w0 blk off d (grow (wr.drewN nq) osq)) := S1.out.grown nq osq
        clear l106a l106b hc106 S1
        generalize grow (wr.drewN nq) osq = w2 at S2 ⊢
        clear nq osq
        clear ea106 ec106
        go_wp2
        go_roundg (j - (h + 1))
        case measure => omega
        case rel => exact ⟨h + 1, j, by first | rfl | go_num, rfl, by omega, by omega, hjm, Nat.le_refl _, S2, hidS ⟨Or.inr (by rw [Nat.add_sub_cancel, ← HL.out _ _ (HX.out h m (by omega) (by omega) (Nat.le_refl _) hmb)]; exact hlv), HI.out.2⟩⟩
    · obtain rfl : i = j := by omega
      have hlt' : ¬ (i : Int) < (i : Int) := by omega
      go_wp2
      go_loopg [17] (m - i) (fun kx s13 wr => ∃ (k : Nat) (dk : Array α), s13 = .int .i64 k ∧ i ≤ k ∧ k ≤ m ∧ k - i ≤ kx ∧ dk.size = d.size ∧ Aside (SW enc w0 blk off dk wr) ∧ Hid (∀ d', Rot i k (k + 1) dk d' → Rot i m b d d'))
      case atStart => exact ⟨m, d, rfl, hjm, Nat.le_refl _, Nat.le_refl _, rfl, S1, hidS (fun d' h => by rw [hm1.out]; exact h)⟩
      case round =>
        clear S1
        obtain ⟨k, dk, rfl, hik, hkm, hkx2, hds, S1, heq⟩ := hrel
        by_cases hk : i < k
        · obtain ⟨kp, hkp⟩ : ∃ q, q + 1 = k := ⟨k - 1, by omega⟩
          have zkp : (k : Int) = (kp : Int) + 1 := by omega
          have hk' : (i : Int) < (kp : Int) + 1 := by omega
          go_wp2_with fail
          obtain ⟨iN107, hiN107⟩ : ∃ q_, q_ = k := ⟨_, rfl⟩
          obtain ⟨jN107, hjN107⟩ : ∃ q_, q_ = k - 1 := ⟨_, rfl⟩
          have ea107 : ((kp : Int) + 1).toNat = iN107 := by omega
          have pa107 : (0 : Int) ≤ (kp : Int) + 1 := by omega
          have ba107 : (kp : Int) + 1 < (d.size : Int) := by omega
          have ra107 : IntKind.i64.wrap ((kp : Int) + 1) = (kp : Int) + 1 := by rw [IntKind.wrap_i64]; omega
          have ec107 : ((kp : Int)).toNat = jN107 := by omega
          have pc107 : (0 : Int) ≤ (kp : Int) := by omega
          have bc107 : (kp : Int) < (d.size : Int) := by omega
          have rc107 : IntKind.i64.wrap ((kp : Int)) = (kp : Int) := by rw [IntKind.wrap_i64]; omega
          obtain ⟨x107, hx107⟩ : ∃ x, x = dk[k]! := ⟨_, rfl⟩
          obtain ⟨y107, hy107⟩ : ∃ x, x = dk[k - 1]! := ⟨_, rfl⟩
          have S2 : Aside (SW enc w0 blk off (swp dk (k) (k - 1)) ((wr.setCell ⟨blk, off + iN107, none⟩ (enc y107)).setCell ⟨blk, off + jN107, none⟩ (enc x107)).drew) := by rw [hiN107, hjN107, hx107, hy107]; exact S1.out.swapped R (k) (k - 1) (by omega) (by omega)
          have c107a := S1.out.c1 R (by omega) (k) (by omega)
          have c107b := S1.out.c1 R (by omega) (k - 1) (by omega)
          have f107a := S1.out.f1 R (by omega) (k) (by omega)
          have f107b := S1.out.f1 R (by omega) (k - 1) (by omega)
          obtain ⟨u107, c107c⟩ := S1.out.c2 R (by omega) (k) (k - 1) (by omega) (by omega) (enc y107)
          rw [← hjN107, ← hiN107] at c107c
          rw [← hx107, ← hiN107] at c107a
          rw [← hy107, ← hjN107] at c107b
          rw [← hiN107] at f107a
          rw [← hjN107] at f107b
          clear S1 hx107 hy107 hiN107 hjN107
          go_wp2_with fail
          go_big_region_o
          clear c107a c107b c107c f107a f107b
          generalize ((wr.setCell ⟨blk, off + iN107, none⟩ (enc y107)).setCell ⟨blk, off + jN107, none⟩ (enc x107)).drew = w2 at S2 ⊢
          clear ea107 ec107
          go_wp2
          go_roundg (k - 1 - i)
          case measure => omega
          case rel => exact ⟨k - 1, _, by first | rfl | go_num | (congr 1; omega), by omega, by omega, Nat.le_refl _, by rw [size_swp]; exact hds, S2, hidS (fun d' h => heq.out d' (rot_down i k dk d' hk (by omega) (by rw [show k - 1 + 1 = k by omega] at h; exact h)))⟩
        · have hk' : ¬ (i : Int) < (k : Int) := by omega
          have ek : k = i := by omega
          go_wp2
          (try simp only [Exit.inBlock, Exit.then]); refine bodyPost_ret (results_none rfl _ _ _) rfl ?_
          have hr := heq.out dk (by rw [ek]; exact rot_none_l i (i + 1) dk)
          have M := merge_r HO.out hm1.out hai hjm hb HLs.out HX.out HI.out.1 HI.out.2 hr
          exact ⟨rfl, dk, M.1, M.2, S1.out⟩
end

section
open Go.Shelf Go.Lib Go.Sort
def SymAt {α : Type} [Inhabited α] (enc : α → Value) (cf : α → α → Int) (ls : α → α → Bool) (ix : α → Nat) (g : Nat) (cb : Array Value) (blk off cap : Nat) (d0 : Array α) (w0 : World) (N : Nat) : Prop :=
  ∀ (a m b : Nat) (d : Array α) (w : World), b - a ≤ N → d0.size = d.size → SW enc w0 blk off d w → a < m → m < b → b ≤ d.size → SortedIn ls a m d → SortedIn ls m b d → CrossIn ix a m b d →
    Calls Tryd.prog 51 #[.slice (some ⟨blk, off, none⟩) d.size cap, .int .i64 a, .int .i64 m, .int .i64 b, .func (.func g) #[] cb] w fun e w' => e = .returned (.tuple #[]) ∧ ∃ d', PermIn a b d d' ∧ SortedIn ls a b d' ∧ SW enc w0 blk off d' w'
/-- What is left of symMerge behind the search: the rotation, and each half. -/
theorem sym_end {α : Type} [Inhabited α] {ls : α → α → Bool} {ix : α → Nat} {a s m e b mid : Nat} {d d1 d2 d3 : Array α} (hS : SWO ls) (has : a ≤ s) (hsm : s ≤ m) (hme : m ≤ e) (heb : e ≤ b) (hb : b ≤ d.size) (hmid : mid = s + (e - m)) (hL : SortedIn ls a m d) (hR : SortedIn ls m b d) (hX : CrossIn ix a m b d)
    (hB : (s = a ∨ e = b ∨ ls d[e]! d[s - 1]! = false) ∧ (e = m ∨ s = m ∨ ls d[s]! d[e - 1]! = false)) (hr : Rot s m e d d1)
    (h1 : SortedIn ls a s d1 → SortedIn ls s mid d1 → CrossIn ix a s mid d1 → PermIn a mid d1 d2 ∧ SortedIn ls a mid d2) (h2 : SortedIn ls mid e d2 → SortedIn ls e b d2 → CrossIn ix mid e b d2 → PermIn mid b d2 d3 ∧ SortedIn ls mid b d3) :
    PermIn a b d d3 ∧ SortedIn ls a b d3 := by
  subst hmid
  have C := cut_of hS has hsm hme heb hL hR hX hr hB.1 hB.2
  have P := permIn_mono _ _ _ _ _ _ has heb hb hr.1
  have hb1 : b ≤ d1.size := by rw [P.1]; exact hb
  have A := h1 C.s1 C.s2 C.x1
  have o : ∀ x, s + (e - m) ≤ x → d2[x]! = d1[x]! := fun x h => A.1.2.1 x (Or.inr h)
  have B := h2 (fun i j l u v => by rw [o i l, o j (by omega)]; exact C.s3 i j l u v) (fun i j l u v => by rw [o i (by omega), o j (by omega)]; exact C.s4 i j l u v) (fun i j l u v x => by rw [o i l, o j (by omega)]; exact C.x2 i j l u v x)
  have M := merge_done C (by omega) (by omega) hb1 A.1 A.2 B.1 B.2
  exact ⟨permIn_trans _ _ _ _ _ P M.1, M.2⟩
set_option maxHeartbeats 64000000 in
set_option maxRecDepth 1000000 in
theorem symMerge_c {α : Type} [Inhabited α] (enc : α → Value) (cf : α → α → Int) (ls : α → α → Bool) (ix : α → Nat) (g : Nat) (cb : Array Value) (blk off cap : Nat) (d0 : Array α) (w0 : World)
    (eg : ∀ args w, (callFunc g args).run Tryd.prog w = .ok (.enter g args) w) (hcmp : CmpLays1 Tryd.prog g cb enc cf blk off d0.size w0) (R : Row1 enc w0 blk off d0) (hS : SWO ls) (hl : ∀ x y, ix x < ix y → ltOf cf y x = ls y x) (hsz : d0.size < 4611686018427387904) (N : Nat) (IH : SymAt enc cf ls ix g cb blk off cap d0 w0 N)
    (a m b : Nat) (d : Array α) (w : World) (hN : b - a ≤ N + 1) (hs : d0.size = d.size) (S : SW enc w0 blk off d w) (ham : a < m) (hmb : m < b) (hb : b ≤ d.size) (hL : SortedIn ls a m d) (hR : SortedIn ls m b d) (hX : CrossIn ix a m b d) (h0 : m ≠ a + 1) (h1 : b ≠ m + 1) :
    Calls Tryd.prog 51 #[.slice (some ⟨blk, off, none⟩) d.size cap, .int .i64 a, .int .i64 m, .int .i64 b, .func (.func g) #[] cb] w fun e w' => e = .returned (.tuple #[]) ∧ ∃ d', PermIn a b d d' ∧ SortedIn ls a b d' ∧ SW enc w0 blk off d' w' := by
  have hcl0 := R.hO.cells
  simp only [Value.cells] at hcl0
  have hst := R.hO.store Tryd.prog
  have mixed : Tryd.prog.follows Departure.mixedOrders = true := by kernel_rfl
  have HC : Aside _ := hcmp
  have S0 : Aside (SW enc w0 blk off d w) := S
  have HL := hidS hl
  have HLs := hidS hL
  have HRs := hidS hR
  have HX := hidS hX
  have HO := hidS hS
  clear S hcmp hl hL hR hX hS
  have em0 : ¬ (m : Int) - (a : Int) = 1 := by omega
  have em00 : ((m : Int) - (a : Int) == 1) = false := beq_eq_false_iff_ne.2 em0
  have en0 : ¬ (b : Int) - (m : Int) = 1 := by omega
  have en00 : ((b : Int) - (m : Int) == 1) = false := beq_eq_false_iff_ne.2 en0
  unfold SymAt at IH
  have HI_ := hidS IH
  clear IH
  obtain ⟨mid, hmid⟩ : ∃ h, h = (a + b) / 2 := ⟨_, rfl⟩
  have emid : ((a : Int) + (b : Int)) / 2 = (mid : Int) := by omega
  have hm2 : 2 * mid ≤ a + b ∧ a + b ≤ 2 * mid + 1 := by omega
  obtain ⟨hm3, hm4⟩ := hm2
  clear hmid
  by_cases hg : mid < m
  · have hg' : (mid : Int) < (m : Int) := by omega
    go_enter Tryd.func51, Tryd.ntmps51
    go_wp2
    go_loopg [20, 21] (mid - (mid + m - b)) (fun kx s10 s11 wr => ∃ s r : Nat, s10 = .int .i64 s ∧ s11 = .int .i64 r ∧ mid + m - b ≤ s ∧ s ≤ r ∧ r ≤ mid ∧ r - s ≤ kx ∧ Aside (SW enc w0 blk off d wr) ∧ Hid ((s = mid + m - b ∨ ls d[mid + m - s]! d[s - 1]! = false) ∧ (r = mid ∨ ls d[mid + m - 1 - r]! d[r]! = true)))
    case atStart => exact ⟨mid + m - b, mid, by first | rfl | go_num | (congr 1; omega), rfl, Nat.le_refl _, by omega, Nat.le_refl _, Nat.le_refl _, S0, hidS ⟨Or.inl rfl, Or.inl rfl⟩⟩
    case round =>
      clear S0
      obtain ⟨s, r, rfl, rfl, hs0, hsr, hr0_, hkx, S1, HB0⟩ := hrel
      by_cases hlt : s < r
      · have hlt' : (s : Int) < (r : Int) := by omega
        obtain ⟨c, hc⟩ : ∃ h, h = (s + r) / 2 := ⟨_, rfl⟩
        have ec : ((s : Int) + (r : Int)) / 2 = (c : Int) := by omega
        have hsc : s ≤ c := by omega
        have hcr : c < r := by omega
        clear hc
        obtain ⟨q, hq⟩ : ∃ q, q = mid + m - 1 - c := ⟨_, rfl⟩
        have eq_ : (mid : Int) + (m : Int) - 1 - (c : Int) = (q : Int) := by omega
        have hq1 : m ≤ q := by omega
        have hq2 : q < b := by omega
        have HQ := hidS hq
        clear hq
        have hac : a ≤ c := by omega
        have hcm : c < m := by omega
        cases hlv : ltOf cf d[q]! d[c]! with
        | true =>
          obtain ⟨iN108, hiN108⟩ : ∃ q_, q_ = q := ⟨_, rfl⟩
          obtain ⟨jN108, hjN108⟩ : ∃ q_, q_ = c := ⟨_, rfl⟩
          have ea108 : ((q : Int)).toNat = iN108 := by omega
          have pa108 : (0 : Int) ≤ (q : Int) := by omega
          have ba108 : (q : Int) < (d.size : Int) := by omega
          have ra108 : IntKind.i64.wrap ((q : Int)) = (q : Int) := by rw [IntKind.wrap_i64]; omega
          have ec108 : ((c : Int)).toNat = jN108 := by omega
          have pc108 : (0 : Int) ≤ (c : Int) := by omega
          have bc108 : (c : Int) < (d.size : Int) := by omega
          have rc108 : IntKind.i64.wrap ((c : Int)) = (c : Int) := by rw [IntKind.wrap_i64]; omega
          obtain ⟨x108, hx108⟩ : ∃ x, x = d[q]! := ⟨_, rfl⟩
          obtain ⟨y108, hy108⟩ : ∃ x, x = d[c]! := ⟨_, rfl⟩
          have l108a := S1.out.cl R (by omega) (q) (by omega)
          have l108b := S1.out.cl R (by omega) (c) (by omega)
          rw [← hx108, ← hiN108] at l108a
          rw [← hy108, ← hjN108] at l108b
          have hc108 := S1.out.cmp HC.out (by omega) x108 y108
          have hv108 : cf x108 y108 < 0 := by rw [hx108, hy108]; exact of_decide_eq_true hlv
          have hd108 : decide (cf x108 y108 < 0) = true := decide_eq_true hv108
          clear hx108 hy108 hiN108 hjN108
          go_wp2_with fail
          go_quiet_grown (first | (go_at_fn g; refine Calls.grown_of (hc108 _ _)))
          have S2 : Aside (SW enc w0 blk off d (grow (wr.drewN nq) osq)) := S1.out.grown nq osq
          clear l108a l108b hc108 S1
          generalize grow (wr.drewN nq) osq = w2 at S2 ⊢
          clear nq osq
          clear ea108 ec108
          go_wp2
          go_roundg (c - s)
          case measure => omega
          case rel => exact ⟨s, c, rfl, rfl, hs0, hsc, by omega, Nat.le_refl _, S2, hidS ⟨HB0.out.1, Or.inr (by rw [← HQ.out, ← HL.out _ _ (HX.out c q hac hcm hq1 hq2)]; exact hlv)⟩⟩
        | false =>
          obtain ⟨iN109, hiN109⟩ : ∃ q_, q_ = q := ⟨_, rfl⟩
          obtain ⟨jN109, hjN109⟩ : ∃ q_, q_ = c := ⟨_, rfl⟩
          have ea109 : ((q : Int)).toNat = iN109 := by omega
          have pa109 : (0 : Int) ≤ (q : Int) := by omega
          have ba109 : (q : Int) < (d.size : Int) := by omega
          have ra109 : IntKind.i64.wrap ((q : Int)) = (q : Int) := by rw [IntKind.wrap_i64]; omega
          have ec109 : ((c : Int)).toNat = jN109 := by omega
          have pc109 : (0 : Int) ≤ (c : Int) := by omega
          have bc109 : (c : Int) < (d.size : Int) := by omega
          have rc109 : IntKind.i64.wrap ((c : Int)) = (c : Int) := by rw [IntKind.wrap_i64]; omega
          obtain ⟨x109, hx109⟩ : ∃ x, x = d[q]! := ⟨_, rfl⟩
          obtain ⟨y109, hy109⟩ : ∃ x, x = d[c]! := ⟨_, rfl⟩
          have l109a := S1.out.cl R (by omega) (q) (by omega)
          have l109b := S1.out.cl R (by omega) (c) (by omega)
          rw [← hx109, ← hiN109] at l109a
          rw [← hy109, ← hjN109] at l109b
          have hc109 := S1.out.cmp HC.out (by omega) x109 y109
          have hv109 : ¬ cf x109 y109 < 0 := by rw [hx109, hy109]; exact of_decide_eq_false hlv
          have hd109 : decide (cf x109 y109 < 0) = false := decide_eq_false hv109
          clear hx109 hy109 hiN109 hjN109
          go_wp2_with fail
          go_quiet_grown (first | (go_at_fn g; refine Calls.grown_of (hc109 _ _)))
          have S2 : Aside (SW enc w0 blk off d (grow (wr.drewN nq) osq)) := S1.out.grown nq osq
          clear l109a l109b hc109 S1
          generalize grow (wr.drewN nq) osq = w2 at S2 ⊢
          clear nq osq
          clear ea109 ec109
          go_wp2
          go_roundg (r - (c + 1))
          case measure => omega
          case rel => exact ⟨c + 1, r, by first | rfl | go_num, rfl, by omega, by omega, hr0_, Nat.le_refl _, S2, hidS ⟨Or.inr (by rw [Nat.add_sub_cancel, show mid + m - (c + 1) = q by rw [HQ.out]; omega, ← HL.out _ _ (HX.out c q hac hcm hq1 hq2)]; exact hlv), HB0.out.2⟩⟩
      · obtain rfl : s = r := by omega
        have hlt' : ¬ (s : Int) < (s : Int) := by omega
        obtain ⟨e, he⟩ : ∃ e, e = mid + m - s := ⟨_, rfl⟩
        have ee : (mid : Int) + (m : Int) - (s : Int) = (e : Int) := by omega
        have e1 : m ≤ e := by omega
        have e2 : e ≤ b := by omega
        have e3 : a ≤ s := by omega
        have e4 : s ≤ m := by omega
        have hmm : mid = s + (e - m) := by omega
        have z4 : ((s : Int) < (mid : Int)) = ((m : Int) < (e : Int)) := propext ⟨fun h => by omega, fun h => by omega⟩
        have z5 : ((mid : Int) < (e : Int)) = ((s : Int) < (m : Int)) := propext ⟨fun h => by omega, fun h => by omega⟩
        have HB : Hid ((s = a ∨ e = b ∨ ls d[e]! d[s - 1]! = false) ∧ (e = m ∨ s = m ∨ ls d[s]! d[e - 1]! = false)) := hidS ⟨by
          rcases HB0.out.1 with h | h
          · by_cases x : s = a
            · exact Or.inl x
            · exact Or.inr (Or.inl (by omega))
          · rw [← he] at h; exact Or.inr (Or.inr h), by
          rcases HB0.out.2 with h | h
          · by_cases x : s = m
            · exact Or.inr (Or.inl x)
            · exact Or.inl (by omega)
          · rw [show mid + m - 1 - s = e - 1 by omega] at h; exact Or.inr (Or.inr (HO.out.asymmA h))⟩
        clear HB0 he
        have HMM := hidS hmm
        have hmm1 : mid + m ≤ s + e := by omega
        have hmm2 : s + e ≤ mid + m := by omega
        clear hmm
        by_cases q0 : (s : Int) < (m : Int)
        · by_cases q1 : (m : Int) < (e : Int)
          · by_cases q2 : (a : Int) < (s : Int)
            · by_cases q3 : (e : Int) < (b : Int)
              · have HR0 := hidS (rotate_s enc g cb blk off cap s m e d0 d w0 wr R hs S1.out (by omega) (by omega) (by omega) (by omega))
                go_wp2_with (first | (go_at_call 59; with_reducible refine HR0.out.mono ?_; rintro e_ w1 ⟨rfl, d1, h_1, h_2⟩; have hr0 := hidS h_1; have S2 := asideS h_2; clear h_1 h_2; have C := hidS (cut_of HO.out (by omega) (by omega) (by omega) (by omega) HLs.out HRs.out HX.out hr0.out HB.out.1 HB.out.2); rw [← HMM.out] at C; have hd1 := Rot.sz hr0.out; have i_ := (HI_.out a s mid d1 _ (by omega) (by rw [hd1]; exact hs) S2.out (by omega) (by omega) (by rw [hd1]; omega) C.out.s1 C.out.s2 C.out.x1); rw [hd1] at i_; have HI1 := hidS i_; clear i_) | (go_at_call 51; first | (with_reducible refine HI1.out.mono ?_; rintro e_ w2 ⟨rfl, d2, h_1, h_2, h_3⟩; have hp1 := hidS h_1; have ht1 := hidS h_2; have S3 := asideS h_3; clear h_1 h_2 h_3; have hd2 := pin_sz hp1.out; have i_ := (HI_.out mid e b d2 _ (by omega) (by rw [hd2, hd1]; exact hs) S3.out (by omega) (by omega) (by rw [hd2, hd1]; omega) (C.out.k3 hp1.out) (C.out.k4 (by omega) hp1.out) (C.out.kx hp1.out)); rw [hd2, hd1] at i_; have HI2 := hidS i_; clear i_) | (with_reducible refine HI2.out.mono ?_; rintro e_ w3 ⟨rfl, d3, h_1, h_2, h_3⟩; have hp2 := hidS h_1; have ht2 := hidS h_2; have S4 := asideS h_3; clear h_1 h_2 h_3)))
                all_goals
                  go_end0
                  have M := sym_end HO.out (by omega) (by omega) (by omega) (by omega) hb HMM.out HLs.out HRs.out HX.out HB.out hr0.out (fun _ _ _ => ⟨hp1.out, ht1.out⟩) (fun _ _ _ => ⟨hp2.out, ht2.out⟩)
                  exact ⟨rfl, _, M.1, M.2, S4.out⟩
              · have HR0 := hidS (rotate_s enc g cb blk off cap s m e d0 d w0 wr R hs S1.out (by omega) (by omega) (by omega) (by omega))
                go_wp2_with (first | (go_at_call 59; with_reducible refine HR0.out.mono ?_; rintro e_ w1 ⟨rfl, d1, h_1, h_2⟩; have hr0 := hidS h_1; have S2 := asideS h_2; clear h_1 h_2; have C := hidS (cut_of HO.out (by omega) (by omega) (by omega) (by omega) HLs.out HRs.out HX.out hr0.out HB.out.1 HB.out.2); rw [← HMM.out] at C; have hd1 := Rot.sz hr0.out; have i_ := (HI_.out a s mid d1 _ (by omega) (by rw [hd1]; exact hs) S2.out (by omega) (by omega) (by rw [hd1]; omega) C.out.s1 C.out.s2 C.out.x1); rw [hd1] at i_; have HI1 := hidS i_; clear i_) | (go_at_call 51; first | (with_reducible refine HI1.out.mono ?_; rintro e_ w2 ⟨rfl, d2, h_1, h_2, h_3⟩; have hp1 := hidS h_1; have ht1 := hidS h_2; have S3 := asideS h_3; clear h_1 h_2 h_3)))
                all_goals
                  go_end0
                  have hp2 := hidS (pin_refl d2 mid b); have ht2 := hidS (sorted_one (C.out.k3 hp1.out) (C.out.k4 (by omega) hp1.out) (by omega))
                  have M := sym_end HO.out (by omega) (by omega) (by omega) (by omega) hb HMM.out HLs.out HRs.out HX.out HB.out hr0.out (fun _ _ _ => ⟨hp1.out, ht1.out⟩) (fun _ _ _ => ⟨hp2.out, ht2.out⟩)
                  exact ⟨rfl, _, M.1, M.2, S3.out⟩
            · by_cases q3 : (e : Int) < (b : Int)
              · have HR0 := hidS (rotate_s enc g cb blk off cap s m e d0 d w0 wr R hs S1.out (by omega) (by omega) (by omega) (by omega))
                go_wp2_with (first | (go_at_call 59; with_reducible refine HR0.out.mono ?_; rintro e_ w1 ⟨rfl, d1, h_1, h_2⟩; have hr0 := hidS h_1; have S2 := asideS h_2; clear h_1 h_2; have C := hidS (cut_of HO.out (by omega) (by omega) (by omega) (by omega) HLs.out HRs.out HX.out hr0.out HB.out.1 HB.out.2); rw [← HMM.out] at C; have hd1 := Rot.sz hr0.out; have hp1 := hidS (pin_refl d1 a mid); have ht1 := hidS (sorted_one C.out.s1 C.out.s2 (by omega)); have hd2 := pin_sz hp1.out; have i_ := (HI_.out mid e b d1 _ (by omega) (by rw [hd2, hd1]; exact hs) S2.out (by omega) (by omega) (by rw [hd2, hd1]; omega) (C.out.k3 hp1.out) (C.out.k4 (by omega) hp1.out) (C.out.kx hp1.out)); rw [hd2, hd1] at i_; have HI2 := hidS i_; clear i_) | (go_at_call 51; first | (with_reducible refine HI2.out.mono ?_; rintro e_ w3 ⟨rfl, d3, h_1, h_2, h_3⟩; have hp2 := hidS h_1; have ht2 := hidS h_2; have S4 := asideS h_3; clear h_1 h_2 h_3)))
                all_goals
                  go_end0
                  have M := sym_end HO.out (by omega) (by omega) (by omega) (by omega) hb HMM.out HLs.out HRs.out HX.out HB.out hr0.out (fun _ _ _ => ⟨hp1.out, ht1.out⟩) (fun _ _ _ => ⟨hp2.out, ht2.out⟩)
                  exact ⟨rfl, _, M.1, M.2, S4.out⟩
              · have HR0 := hidS (rotate_s enc g cb blk off cap s m e d0 d w0 wr R hs S1.out (by omega) (by omega) (by omega) (by omega))
                go_wp2_with (first | (go_at_call 59; with_reducible refine HR0.out.mono ?_; rintro e_ w1 ⟨rfl, d1, h_1, h_2⟩; have hr0 := hidS h_1; have S2 := asideS h_2; clear h_1 h_2; have C := hidS (cut_of HO.out (by omega) (by omega) (by omega) (by omega) HLs.out HRs.out HX.out hr0.out HB.out.1 HB.out.2); rw [← HMM.out] at C; have hd1 := Rot.sz hr0.out; have hp1 := hidS (pin_refl d1 a mid); have ht1 := hidS (sorted_one C.out.s1 C.out.s2 (by omega))))
                all_goals
                  go_end0
                  have hp2 := hidS (pin_refl d1 mid b); have ht2 := hidS (sorted_one (C.out.k3 hp1.out) (C.out.k4 (by omega) hp1.out) (by omega))
                  have M := sym_end HO.out (by omega) (by omega) (by omega) (by omega) hb HMM.out HLs.out HRs.out HX.out HB.out hr0.out (fun _ _ _ => ⟨hp1.out, ht1.out⟩) (fun _ _ _ => ⟨hp2.out, ht2.out⟩)
                  exact ⟨rfl, _, M.1, M.2, S2.out⟩
          · by_cases q2 : (a : Int) < (s : Int)
            · by_cases q3 : (e : Int) < (b : Int)
              · have hr0 : Hid (Rot s m e d d) := hidS (by first | (rw [show s = m by omega]; exact rot_none_l _ _ _) | (rw [show e = m by omega]; exact rot_none_r _ _ _))
                have C := hidS (cut_of HO.out (by omega) (by omega) (by omega) (by omega) HLs.out HRs.out HX.out hr0.out HB.out.1 HB.out.2); rw [← HMM.out] at C; have hd1 := Rot.sz hr0.out; have hp1 := hidS (pin_refl d a mid); have ht1 := hidS (sorted_one C.out.s1 C.out.s2 (by omega)); have hd2 := pin_sz hp1.out; have i_ := (HI_.out mid e b d _ (by omega) (by rw [hd2, hd1]; exact hs) S1.out (by omega) (by omega) (by rw [hd2, hd1]; omega) (C.out.k3 hp1.out) (C.out.k4 (by omega) hp1.out) (C.out.kx hp1.out)); rw [hd2, hd1] at i_; have HI2 := hidS i_; clear i_
                go_wp2_with (first | (go_at_call 51; first | (with_reducible refine HI2.out.mono ?_; rintro e_ w3 ⟨rfl, d3, h_1, h_2, h_3⟩; have hp2 := hidS h_1; have ht2 := hidS h_2; have S4 := asideS h_3; clear h_1 h_2 h_3)))
                all_goals
                  go_end0
                  have M := sym_end HO.out (by omega) (by omega) (by omega) (by omega) hb HMM.out HLs.out HRs.out HX.out HB.out hr0.out (fun _ _ _ => ⟨hp1.out, ht1.out⟩) (fun _ _ _ => ⟨hp2.out, ht2.out⟩)
                  exact ⟨rfl, _, M.1, M.2, S4.out⟩
              · have hr0 : Hid (Rot s m e d d) := hidS (by first | (rw [show s = m by omega]; exact rot_none_l _ _ _) | (rw [show e = m by omega]; exact rot_none_r _ _ _))
                have C := hidS (cut_of HO.out (by omega) (by omega) (by omega) (by omega) HLs.out HRs.out HX.out hr0.out HB.out.1 HB.out.2); rw [← HMM.out] at C; have hd1 := Rot.sz hr0.out; have hp1 := hidS (pin_refl d a mid); have ht1 := hidS (sorted_one C.out.s1 C.out.s2 (by omega))
                go_wp2
                all_goals
                  go_end0
                  have hp2 := hidS (pin_refl d mid b); have ht2 := hidS (sorted_one (C.out.k3 hp1.out) (C.out.k4 (by omega) hp1.out) (by omega))
                  have M := sym_end HO.out (by omega) (by omega) (by omega) (by omega) hb HMM.out HLs.out HRs.out HX.out HB.out hr0.out (fun _ _ _ => ⟨hp1.out, ht1.out⟩) (fun _ _ _ => ⟨hp2.out, ht2.out⟩)
                  exact ⟨rfl, _, M.1, M.2, S1.out⟩
            · by_cases q3 : (e : Int) < (b : Int)
              · have hr0 : Hid (Rot s m e d d) := hidS (by first | (rw [show s = m by omega]; exact rot_none_l _ _ _) | (rw [show e = m by omega]; exact rot_none_r _ _ _))
                have C := hidS (cut_of HO.out (by omega) (by omega) (by omega) (by omega) HLs.out HRs.out HX.out hr0.out HB.out.1 HB.out.2); rw [← HMM.out] at C; have hd1 := Rot.sz hr0.out; have hp1 := hidS (pin_refl d a mid); have ht1 := hidS (sorted_one C.out.s1 C.out.s2 (by omega)); have hd2 := pin_sz hp1.out; have i_ := (HI_.out mid e b d _ (by omega) (by rw [hd2, hd1]; exact hs) S1.out (by omega) (by omega) (by rw [hd2, hd1]; omega) (C.out.k3 hp1.out) (C.out.k4 (by omega) hp1.out) (C.out.kx hp1.out)); rw [hd2, hd1] at i_; have HI2 := hidS i_; clear i_
                go_wp2_with (first | (go_at_call 51; first | (with_reducible refine HI2.out.mono ?_; rintro e_ w3 ⟨rfl, d3, h_1, h_2, h_3⟩; have hp2 := hidS h_1; have ht2 := hidS h_2; have S4 := asideS h_3; clear h_1 h_2 h_3)))
                all_goals
                  go_end0
                  have M := sym_end HO.out (by omega) (by omega) (by omega) (by omega) hb HMM.out HLs.out HRs.out HX.out HB.out hr0.out (fun _ _ _ => ⟨hp1.out, ht1.out⟩) (fun _ _ _ => ⟨hp2.out, ht2.out⟩)
                  exact ⟨rfl, _, M.1, M.2, S4.out⟩
              · have hr0 : Hid (Rot s m e d d) := hidS (by first | (rw [show s = m by omega]; exact rot_none_l _ _ _) | (rw [show e = m by omega]; exact rot_none_r _ _ _))
                have C := hidS (cut_of HO.out (by omega) (by omega) (by omega) (by omega) HLs.out HRs.out HX.out hr0.out HB.out.1 HB.out.2); rw [← HMM.out] at C; have hd1 := Rot.sz hr0.out; have hp1 := hidS (pin_refl d a mid); have ht1 := hidS (sorted_one C.out.s1 C.out.s2 (by omega))
                go_wp2
                all_goals
                  go_end0
                  have hp2 := hidS (pin_refl d mid b); have ht2 := hidS (sorted_one (C.out.k3 hp1.out) (C.out.k4 (by omega) hp1.out) (by omega))
                  have M := sym_end HO.out (by omega) (by omega) (by omega) (by omega) hb HMM.out HLs.out HRs.out HX.out HB.out hr0.out (fun _ _ _ => ⟨hp1.out, ht1.out⟩) (fun _ _ _ => ⟨hp2.out, ht2.out⟩)
                  exact ⟨rfl, _, M.1, M.2, S1.out⟩
        · by_cases q1 : (m : Int) < (e : Int)
          · by_cases q2 : (a : Int) < (s : Int)
            · by_cases q3 : (e : Int) < (b : Int)
              · have hr0 : Hid (Rot s m e d d) := hidS (by first | (rw [show s = m by omega]; exact rot_none_l _ _ _) | (rw [show e = m by omega]; exact rot_none_r _ _ _))
                have C := hidS (cut_of HO.out (by omega) (by omega) (by omega) (by omega) HLs.out HRs.out HX.out hr0.out HB.out.1 HB.out.2); rw [← HMM.out] at C; have hd1 := Rot.sz hr0.out; have i_ := (HI_.out a s mid d _ (by omega) (by rw [hd1]; exact hs) S1.out (by omega) (by omega) (by rw [hd1]; omega) C.out.s1 C.out.s2 C.out.x1); rw [hd1] at i_; have HI1 := hidS i_; clear i_
                go_wp2_with (first | (go_at_call 51; first | (with_reducible refine HI1.out.mono ?_; rintro e_ w2 ⟨rfl, d2, h_1, h_2, h_3⟩; have hp1 := hidS h_1; have ht1 := hidS h_2; have S3 := asideS h_3; clear h_1 h_2 h_3)))
                all_goals
                  go_end0
                  have hp2 := hidS (pin_refl d2 mid b); have ht2 := hidS (sorted_one (C.out.k3 hp1.out) (C.out.k4 (by omega) hp1.out) (by omega))
                  have M := sym_end HO.out (by omega) (by omega) (by omega) (by omega) hb HMM.out HLs.out HRs.out HX.out HB.out hr0.out (fun _ _ _ => ⟨hp1.out, ht1.out⟩) (fun _ _ _ => ⟨hp2.out, ht2.out⟩)
                  exact ⟨rfl, _, M.1, M.2, S3.out⟩
              · have hr0 : Hid (Rot s m e d d) := hidS (by first | (rw [show s = m by omega]; exact rot_none_l _ _ _) | (rw [show e = m by omega]; exact rot_none_r _ _ _))
                have C := hidS (cut_of HO.out (by omega) (by omega) (by omega) (by omega) HLs.out HRs.out HX.out hr0.out HB.out.1 HB.out.2); rw [← HMM.out] at C; have hd1 := Rot.sz hr0.out; have i_ := (HI_.out a s mid d _ (by omega) (by rw [hd1]; exact hs) S1.out (by omega) (by omega) (by rw [hd1]; omega) C.out.s1 C.out.s2 C.out.x1); rw [hd1] at i_; have HI1 := hidS i_; clear i_
                go_wp2_with (first | (go_at_call 51; first | (with_reducible refine HI1.out.mono ?_; rintro e_ w2 ⟨rfl, d2, h_1, h_2, h_3⟩; have hp1 := hidS h_1; have ht1 := hidS h_2; have S3 := asideS h_3; clear h_1 h_2 h_3)))
                all_goals
                  go_end0
                  have hp2 := hidS (pin_refl d2 mid b); have ht2 := hidS (sorted_one (C.out.k3 hp1.out) (C.out.k4 (by omega) hp1.out) (by omega))
                  have M := sym_end HO.out (by omega) (by omega) (by omega) (by omega) hb HMM.out HLs.out HRs.out HX.out HB.out hr0.out (fun _ _ _ => ⟨hp1.out, ht1.out⟩) (fun _ _ _ => ⟨hp2.out, ht2.out⟩)
                  exact ⟨rfl, _, M.1, M.2, S3.out⟩
            · by_cases q3 : (e : Int) < (b : Int)
              · have hr0 : Hid (Rot s m e d d) := hidS (by first | (rw [show s = m by omega]; exact rot_none_l _ _ _) | (rw [show e = m by omega]; exact rot_none_r _ _ _))
                have C := hidS (cut_of HO.out (by omega) (by omega) (by omega) (by omega) HLs.out HRs.out HX.out hr0.out HB.out.1 HB.out.2); rw [← HMM.out] at C; have hd1 := Rot.sz hr0.out; have hp1 := hidS (pin_refl d a mid); have ht1 := hidS (sorted_one C.out.s1 C.out.s2 (by omega))
                go_wp2
                all_goals
                  go_end0
                  have hp2 := hidS (pin_refl d mid b); have ht2 := hidS (sorted_one (C.out.k3 hp1.out) (C.out.k4 (by omega) hp1.out) (by omega))
                  have M := sym_end HO.out (by omega) (by omega) (by omega) (by omega) hb HMM.out HLs.out HRs.out HX.out HB.out hr0.out (fun _ _ _ => ⟨hp1.out, ht1.out⟩) (fun _ _ _ => ⟨hp2.out, ht2.out⟩)
                  exact ⟨rfl, _, M.1, M.2, S1.out⟩
              · have hr0 : Hid (Rot s m e d d) := hidS (by first | (rw [show s = m by omega]; exact rot_none_l _ _ _) | (rw [show e = m by omega]; exact rot_none_r _ _ _))
                have C := hidS (cut_of HO.out (by omega) (by omega) (by omega) (by omega) HLs.out HRs.out HX.out hr0.out HB.out.1 HB.out.2); rw [← HMM.out] at C; have hd1 := Rot.sz hr0.out; have hp1 := hidS (pin_refl d a mid); have ht1 := hidS (sorted_one C.out.s1 C.out.s2 (by omega))
                go_wp2
                all_goals
                  go_end0
                  have hp2 := hidS (pin_refl d mid b); have ht2 := hidS (sorted_one (C.out.k3 hp1.out) (C.out.k4 (by omega) hp1.out) (by omega))
                  have M := sym_end HO.out (by omega) (by omega) (by omega) (by omega) hb HMM.out HLs.out HRs.out HX.out HB.out hr0.out (fun _ _ _ => ⟨hp1.out, ht1.out⟩) (fun _ _ _ => ⟨hp2.out, ht2.out⟩)
                  exact ⟨rfl, _, M.1, M.2, S1.out⟩
          · by_cases q2 : (a : Int) < (s : Int)
            · by_cases q3 : (e : Int) < (b : Int)
              · have hr0 : Hid (Rot s m e d d) := hidS (by first | (rw [show s = m by omega]; exact rot_none_l _ _ _) | (rw [show e = m by omega]; exact rot_none_r _ _ _))
                have C := hidS (cut_of HO.out (by omega) (by omega) (by omega) (by omega) HLs.out HRs.out HX.out hr0.out HB.out.1 HB.out.2); rw [← HMM.out] at C; have hd1 := Rot.sz hr0.out; have hp1 := hidS (pin_refl d a mid); have ht1 := hidS (sorted_one C.out.s1 C.out.s2 (by omega))
                go_wp2
                all_goals
                  go_end0
                  have hp2 := hidS (pin_refl d mid b); have ht2 := hidS (sorted_one (C.out.k3 hp1.out) (C.out.k4 (by omega) hp1.out) (by omega))
                  have M := sym_end HO.out (by omega) (by omega) (by omega) (by omega) hb HMM.out HLs.out HRs.out HX.out HB.out hr0.out (fun _ _ _ => ⟨hp1.out, ht1.out⟩) (fun _ _ _ => ⟨hp2.out, ht2.out⟩)
                  exact ⟨rfl, _, M.1, M.2, S1.out⟩
              · have hr0 : Hid (Rot s m e d d) := hidS (by first | (rw [show s = m by omega]; exact rot_none_l _ _ _) | (rw [show e = m by omega]; exact rot_none_r _ _ _))
                have C := hidS (cut_of HO.out (by omega) (by omega) (by omega) (by omega) HLs.out HRs.out HX.out hr0.out HB.out.1 HB.out.2); rw [← HMM.out] at C; have hd1 := Rot.sz hr0.out; have hp1 := hidS (pin_refl d a mid); have ht1 := hidS (sorted_one C.out.s1 C.out.s2 (by omega))
                go_wp2
                all_goals
                  go_end0
                  have hp2 := hidS (pin_refl d mid b); have ht2 := hidS (sorted_one (C.out.k3 hp1.out) (C.out.k4 (by omega) hp1.out) (by omega))
                  have M := sym_end HO.out (by omega) (by omega) (by omega) (by omega) hb HMM.out HLs.out HRs.out HX.out HB.out hr0.out (fun _ _ _ => ⟨hp1.out, ht1.out⟩) (fun _ _ _ => ⟨hp2.out, ht2.out⟩)
                  exact ⟨rfl, _, M.1, M.2, S1.out⟩
            · by_cases q3 : (e : Int) < (b : Int)
              · have hr0 : Hid (Rot s m e d d) := hidS (by first | (rw [show s = m by omega]; exact rot_none_l _ _ _) | (rw [show e = m by omega]; exact rot_none_r _ _ _))
                have C := hidS (cut_of HO.out (by omega) (by omega) (by omega) (by omega) HLs.out HRs.out HX.out hr0.out HB.out.1 HB.out.2); rw [← HMM.out] at C; have hd1 := Rot.sz hr0.out; have hp1 := hidS (pin_refl d a mid); have ht1 := hidS (sorted_one C.out.s1 C.out.s2 (by omega))
                go_wp2
                all_goals
                  go_end0
                  have hp2 := hidS (pin_refl d mid b); have ht2 := hidS (sorted_one (C.out.k3 hp1.out) (C.out.k4 (by omega) hp1.out) (by omega))
                  have M := sym_end HO.out (by omega) (by omega) (by omega) (by omega) hb HMM.out HLs.out HRs.out HX.out HB.out hr0.out (fun _ _ _ => ⟨hp1.out, ht1.out⟩) (fun _ _ _ => ⟨hp2.out, ht2.out⟩)
                  exact ⟨rfl, _, M.1, M.2, S1.out⟩
              · have hr0 : Hid (Rot s m e d d) := hidS (by first | (rw [show s = m by omega]; exact rot_none_l _ _ _) | (rw [show e = m by omega]; exact rot_none_r _ _ _))
                have C := hidS (cut_of HO.out (by omega) (by omega) (by omega) (by omega) HLs.out HRs.out HX.out hr0.out HB.out.1 HB.out.2); rw [← HMM.out] at C; have hd1 := Rot.sz hr0.out; have hp1 := hidS (pin_refl d a mid); have ht1 := hidS (sorted_one C.out.s1 C.out.s2 (by omega))
                go_wp2
                all_goals
                  go_end0
                  have hp2 := hidS (pin_refl d mid b); have ht2 := hidS (sorted_one (C.out.k3 hp1.out) (C.out.k4 (by omega) hp1.out) (by omega))
                  have M := sym_end HO.out (by omega) (by omega) (by omega) (by omega) hb HMM.out HLs.out HRs.out HX.out HB.out hr0.out (fun _ _ _ => ⟨hp1.out, ht1.out⟩) (fun _ _ _ => ⟨hp2.out, ht2.out⟩)
                  exact ⟨rfl, _, M.1, M.2, S1.out⟩
  · have hg' : ¬ (mid : Int) < (m : Int) := by omega
    go_enter Tryd.func51, Tryd.ntmps51
    go_wp2
    go_loopg [20, 21] (m - (a)) (fun kx s10 s11 wr => ∃ s r : Nat, s10 = .int .i64 s ∧ s11 = .int .i64 r ∧ a ≤ s ∧ s ≤ r ∧ r ≤ m ∧ r - s ≤ kx ∧ Aside (SW enc w0 blk off d wr) ∧ Hid ((s = a ∨ ls d[mid + m - s]! d[s - 1]! = false) ∧ (r = m ∨ ls d[mid + m - 1 - r]! d[r]! = true)))
    case atStart => exact ⟨a, m, by first | rfl | go_num | (congr 1; omega), rfl, Nat.le_refl _, by omega, Nat.le_refl _, Nat.le_refl _, S0, hidS ⟨Or.inl rfl, Or.inl rfl⟩⟩
    case round =>
      clear S0
      obtain ⟨s, r, rfl, rfl, hs0, hsr, hr0_, hkx, S1, HB0⟩ := hrel
      by_cases hlt : s < r
      · have hlt' : (s : Int) < (r : Int) := by omega
        obtain ⟨c, hc⟩ : ∃ h, h = (s + r) / 2 := ⟨_, rfl⟩
        have ec : ((s : Int) + (r : Int)) / 2 = (c : Int) := by omega
        have hsc : s ≤ c := by omega
        have hcr : c < r := by omega
        clear hc
        obtain ⟨q, hq⟩ : ∃ q, q = mid + m - 1 - c := ⟨_, rfl⟩
        have eq_ : (mid : Int) + (m : Int) - 1 - (c : Int) = (q : Int) := by omega
        have hq1 : m ≤ q := by omega
        have hq2 : q < b := by omega
        have HQ := hidS hq
        clear hq
        have hac : a ≤ c := by omega
        have hcm : c < m := by omega
        cases hlv : ltOf cf d[q]! d[c]! with
        | true =>
          obtain ⟨iN110, hiN110⟩ : ∃ q_, q_ = q := ⟨_, rfl⟩
          obtain ⟨jN110, hjN110⟩ : ∃ q_, q_ = c := ⟨_, rfl⟩
          have ea110 : ((q : Int)).toNat = iN110 := by omega
          have pa110 : (0 : Int) ≤ (q : Int) := by omega
          have ba110 : (q : Int) < (d.size : Int) := by omega
          have ra110 : IntKind.i64.wrap ((q : Int)) = (q : Int) := by rw [IntKind.wrap_i64]; omega
          have ec110 : ((c : Int)).toNat = jN110 := by omega
          have pc110 : (0 : Int) ≤ (c : Int) := by omega
          have bc110 : (c : Int) < (d.size : Int) := by omega
          have rc110 : IntKind.i64.wrap ((c : Int)) = (c : Int) := by rw [IntKind.wrap_i64]; omega
          obtain ⟨x110, hx110⟩ : ∃ x, x = d[q]! := ⟨_, rfl⟩
          obtain ⟨y110, hy110⟩ : ∃ x, x = d[c]! := ⟨_, rfl⟩
          have l110a := S1.out.cl R (by omega) (q) (by omega)
          have l110b := S1.out.cl R (by omega) (c) (by omega)
          rw [← hx110, ← hiN110] at l110a
          rw [← hy110, ← hjN110] at l110b
          have hc110 := S1.out.cmp HC.out (by omega) x110 y110
          have hv110 : cf x110 y110 < 0 := by rw [hx110, hy110]; exact of_decide_eq_true hlv
          have hd110 : decide (cf x110 y110 < 0) = true := decide_eq_true hv110
          clear hx110 hy110 hiN110 hjN110
          go_wp2_with fail
          go_quiet_grown (first | (go_at_fn g; refine Calls.grown_of (hc110 _ _)))
          have S2 : Aside (SW enc w0 blk off d (grow (wr.drewN nq) osq)) := S1.out.grown nq osq
          clear l110a l110b hc110 S1
          generalize grow (wr.drewN nq) osq = w2 at S2 ⊢
          clear nq osq
          clear ea110 ec110
          go_wp2
          go_roundg (c - s)
          case measure => omega
          case rel => exact ⟨s, c, rfl, rfl, hs0, hsc, by omega, Nat.le_refl _, S2, hidS ⟨HB0.out.1, Or.inr (by rw [← HQ.out, ← HL.out _ _ (HX.out c q hac hcm hq1 hq2)]; exact hlv)⟩⟩
        | false =>
          obtain ⟨iN111, hiN111⟩ : ∃ q_, q_ = q := ⟨_, rfl⟩
          obtain ⟨jN111, hjN111⟩ : ∃ q_, q_ = c := ⟨_, rfl⟩
          have ea111 : ((q : Int)).toNat = iN111 := by omega
          have pa111 : (0 : Int) ≤ (q : Int) := by omega
          have ba111 : (q : Int) < (d.size : Int) := by omega
          have ra111 : IntKind.i64.wrap ((q : Int)) = (q : Int) := by rw [IntKind.wrap_i64]; omega
          have ec111 : ((c : Int)).toNat = jN111 := by omega
          have pc111 : (0 : Int) ≤ (c : Int) := by omega
          have bc111 : (c : Int) < (d.size : Int) := by omega
          have rc111 : IntKind.i64.wrap ((c : Int)) = (c : Int) := by rw [IntKind.wrap_i64]; omega
          obtain ⟨x111, hx111⟩ : ∃ x, x = d[q]! := ⟨_, rfl⟩
          obtain ⟨y111, hy111⟩ : ∃ x, x = d[c]! := ⟨_, rfl⟩
          have l111a := S1.out.cl R (by omega) (q) (by omega)
          have l111b := S1.out.cl R (by omega) (c) (by omega)
          rw [← hx111, ← hiN111] at l111a
          rw [← hy111, ← hjN111] at l111b
          have hc111 := S1.out.cmp HC.out (by omega) x111 y111
          have hv111 : ¬ cf x111 y111 < 0 := by rw [hx111, hy111]; exact of_decide_eq_false hlv
          have hd111 : decide (cf x111 y111 < 0) = false := decide_eq_false hv111
          clear hx111 hy111 hiN111 hjN111
          go_wp2_with fail
          go_quiet_grown (first | (go_at_fn g; refine Calls.grown_of (hc111 _ _)))
          have S2 : Aside (SW enc w0 blk off d (grow (wr.drewN nq) osq)) := S1.out.grown nq osq
          clear l111a l111b hc111 S1
          generalize grow (wr.drewN nq) osq = w2 at S2 ⊢
          clear nq osq
          clear ea111 ec111
          go_wp2
          go_roundg (r - (c + 1))
          case measure => omega
          case rel => exact ⟨c + 1, r, by first | rfl | go_num, rfl, by omega, by omega, hr0_, Nat.le_refl _, S2, hidS ⟨Or.inr (by rw [Nat.add_sub_cancel, show mid + m - (c + 1) = q by rw [HQ.out]; omega, ← HL.out _ _ (HX.out c q hac hcm hq1 hq2)]; exact hlv), HB0.out.2⟩⟩
      · obtain rfl : s = r := by omega
        have hlt' : ¬ (s : Int) < (s : Int) := by omega
        obtain ⟨e, he⟩ : ∃ e, e = mid + m - s := ⟨_, rfl⟩
        have ee : (mid : Int) + (m : Int) - (s : Int) = (e : Int) := by omega
        have e1 : m ≤ e := by omega
        have e2 : e ≤ b := by omega
        have e3 : a ≤ s := by omega
        have e4 : s ≤ m := by omega
        have hmm : mid = s + (e - m) := by omega
        have z4 : ((s : Int) < (mid : Int)) = ((m : Int) < (e : Int)) := propext ⟨fun h => by omega, fun h => by omega⟩
        have z5 : ((mid : Int) < (e : Int)) = ((s : Int) < (m : Int)) := propext ⟨fun h => by omega, fun h => by omega⟩
        have HB : Hid ((s = a ∨ e = b ∨ ls d[e]! d[s - 1]! = false) ∧ (e = m ∨ s = m ∨ ls d[s]! d[e - 1]! = false)) := hidS ⟨by
          rcases HB0.out.1 with h | h
          · by_cases x : s = a
            · exact Or.inl x
            · exact Or.inr (Or.inl (by omega))
          · rw [← he] at h; exact Or.inr (Or.inr h), by
          rcases HB0.out.2 with h | h
          · by_cases x : s = m
            · exact Or.inr (Or.inl x)
            · exact Or.inl (by omega)
          · rw [show mid + m - 1 - s = e - 1 by omega] at h; exact Or.inr (Or.inr (HO.out.asymmA h))⟩
        clear HB0 he
        have HMM := hidS hmm
        have hmm1 : mid + m ≤ s + e := by omega
        have hmm2 : s + e ≤ mid + m := by omega
        clear hmm
        by_cases q0 : (s : Int) < (m : Int)
        · by_cases q1 : (m : Int) < (e : Int)
          · by_cases q2 : (a : Int) < (s : Int)
            · by_cases q3 : (e : Int) < (b : Int)
              · have HR0 := hidS (rotate_s enc g cb blk off cap s m e d0 d w0 wr R hs S1.out (by omega) (by omega) (by omega) (by omega))
                go_wp2_with (first | (go_at_call 59; with_reducible refine HR0.out.mono ?_; rintro e_ w1 ⟨rfl, d1, h_1, h_2⟩; have hr0 := hidS h_1; have S2 := asideS h_2; clear h_1 h_2; have C := hidS (cut_of HO.out (by omega) (by omega) (by omega) (by omega) HLs.out HRs.out HX.out hr0.out HB.out.1 HB.out.2); rw [← HMM.out] at C; have hd1 := Rot.sz hr0.out; have i_ := (HI_.out a s mid d1 _ (by omega) (by rw [hd1]; exact hs) S2.out (by omega) (by omega) (by rw [hd1]; omega) C.out.s1 C.out.s2 C.out.x1); rw [hd1] at i_; have HI1 := hidS i_; clear i_) | (go_at_call 51; first | (with_reducible refine HI1.out.mono ?_; rintro e_ w2 ⟨rfl, d2, h_1, h_2, h_3⟩; have hp1 := hidS h_1; have ht1 := hidS h_2; have S3 := asideS h_3; clear h_1 h_2 h_3; have hd2 := pin_sz hp1.out; have i_ := (HI_.out mid e b d2 _ (by omega) (by rw [hd2, hd1]; exact hs) S3.out (by omega) (by omega) (by rw [hd2, hd1]; omega) (C.out.k3 hp1.out) (C.out.k4 (by omega) hp1.out) (C.out.kx hp1.out)); rw [hd2, hd1] at i_; have HI2 := hidS i_; clear i_) | (with_reducible refine HI2.out.mono ?_; rintro e_ w3 ⟨rfl, d3, h_1, h_2, h_3⟩; have hp2 := hidS h_1; have ht2 := hidS h_2; have S4 := asideS h_3; clear h_1 h_2 h_3)))
                all_goals
                  go_end0
                  have M := sym_end HO.out (by omega) (by omega) (by omega) (by omega) hb HMM.out HLs.out HRs.out HX.out HB.out hr0.out (fun _ _ _ => ⟨hp1.out, ht1.out⟩) (fun _ _ _ => ⟨hp2.out, ht2.out⟩)
                  exact ⟨rfl, _, M.1, M.2, S4.out⟩
              · have HR0 := hidS (rotate_s enc g cb blk off cap s m e d0 d w0 wr R hs S1.out (by omega) (by omega) (by omega) (by omega))
                go_wp2_with (first | (go_at_call 59; with_reducible refine HR0.out.mono ?_; rintro e_ w1 ⟨rfl, d1, h_1, h_2⟩; have hr0 := hidS h_1; have S2 := asideS h_2; clear h_1 h_2; have C := hidS (cut_of HO.out (by omega) (by omega) (by omega) (by omega) HLs.out HRs.out HX.out hr0.out HB.out.1 HB.out.2); rw [← HMM.out] at C; have hd1 := Rot.sz hr0.out; have i_ := (HI_.out a s mid d1 _ (by omega) (by rw [hd1]; exact hs) S2.out (by omega) (by omega) (by rw [hd1]; omega) C.out.s1 C.out.s2 C.out.x1); rw [hd1] at i_; have HI1 := hidS i_; clear i_) | (go_at_call 51; first | (with_reducible refine HI1.out.mono ?_; rintro e_ w2 ⟨rfl, d2, h_1, h_2, h_3⟩; have hp1 := hidS h_1; have ht1 := hidS h_2; have S3 := asideS h_3; clear h_1 h_2 h_3)))
                all_goals
                  go_end0
                  have hp2 := hidS (pin_refl d2 mid b); have ht2 := hidS (sorted_one (C.out.k3 hp1.out) (C.out.k4 (by omega) hp1.out) (by omega))
                  have M := sym_end HO.out (by omega) (by omega) (by omega) (by omega) hb HMM.out HLs.out HRs.out HX.out HB.out hr0.out (fun _ _ _ => ⟨hp1.out, ht1.out⟩) (fun _ _ _ => ⟨hp2.out, ht2.out⟩)
                  exact ⟨rfl, _, M.1, M.2, S3.out⟩
            · by_cases q3 : (e : Int) < (b : Int)
              · have HR0 := hidS (rotate_s enc g cb blk off cap s m e d0 d w0 wr R hs S1.out (by omega) (by omega) (by omega) (by omega))
                go_wp2_with (first | (go_at_call 59; with_reducible refine HR0.out.mono ?_; rintro e_ w1 ⟨rfl, d1, h_1, h_2⟩; have hr0 := hidS h_1; have S2 := asideS h_2; clear h_1 h_2; have C := hidS (cut_of HO.out (by omega) (by omega) (by omega) (by omega) HLs.out HRs.out HX.out hr0.out HB.out.1 HB.out.2); rw [← HMM.out] at C; have hd1 := Rot.sz hr0.out; have hp1 := hidS (pin_refl d1 a mid); have ht1 := hidS (sorted_one C.out.s1 C.out.s2 (by omega)); have hd2 := pin_sz hp1.out; have i_ := (HI_.out mid e b d1 _ (by omega) (by rw [hd2, hd1]; exact hs) S2.out (by omega) (by omega) (by rw [hd2, hd1]; omega) (C.out.k3 hp1.out) (C.out.k4 (by omega) hp1.out) (C.out.kx hp1.out)); rw [hd2, hd1] at i_; have HI2 := hidS i_; clear i_) | (go_at_call 51; first | (with_reducible refine HI2.out.mono ?_; rintro e_ w3 ⟨rfl, d3, h_1, h_2, h_3⟩; have hp2 := hidS h_1; have ht2 := hidS h_2; have S4 := asideS h_3; clear h_1 h_2 h_3)))
                all_goals
                  go_end0
                  have M := sym_end HO.out (by omega) (by omega) (by omega) (by omega) hb HMM.out HLs.out HRs.out HX.out HB.out hr0.out (fun _ _ _ => ⟨hp1.out, ht1.out⟩) (fun _ _ _ => ⟨hp2.out, ht2.out⟩)
                  exact ⟨rfl, _, M.1, M.2, S4.out⟩
              · have HR0 := hidS (rotate_s enc g cb blk off cap s m e d0 d w0 wr R hs S1.out (by omega) (by omega) (by omega) (by omega))
                go_wp2_with (first | (go_at_call 59; with_reducible refine HR0.out.mono ?_; rintro e_ w1 ⟨rfl, d1, h_1, h_2⟩; have hr0 := hidS h_1; have S2 := asideS h_2; clear h_1 h_2; have C := hidS (cut_of HO.out (by omega) (by omega) (by omega) (by omega) HLs.out HRs.out HX.out hr0.out HB.out.1 HB.out.2); rw [← HMM.out] at C; have hd1 := Rot.sz hr0.out; have hp1 := hidS (pin_refl d1 a mid); have ht1 := hidS (sorted_one C.out.s1 C.out.s2 (by omega))))
                all_goals
                  go_end0
                  have hp2 := hidS (pin_refl d1 mid b); have ht2 := hidS (sorted_one (C.out.k3 hp1.out) (C.out.k4 (by omega) hp1.out) (by omega))
                  have M := sym_end HO.out (by omega) (by omega) (by omega) (by omega) hb HMM.out HLs.out HRs.out HX.out HB.out hr0.out (fun _ _ _ => ⟨hp1.out, ht1.out⟩) (fun _ _ _ => ⟨hp2.out, ht2.out⟩)
                  exact ⟨rfl, _, M.1, M.2, S2.out⟩
          · by_cases q2 : (a : Int) < (s : Int)
            · by_cases q3 : (e : Int) < (b : Int)
              · have hr0 : Hid (Rot s m e d d) := hidS (by first | (rw [show s = m by omega]; exact rot_none_l _ _ _) | (rw [show e = m by omega]; exact rot_none_r _ _ _))
                have C := hidS (cut_of HO.out (by omega) (by omega) (by omega) (by omega) HLs.out HRs.out HX.out hr0.out HB.out.1 HB.out.2); rw [← HMM.out] at C; have hd1 := Rot.sz hr0.out; have hp1 := hidS (pin_refl d a mid); have ht1 := hidS (sorted_one C.out.s1 C.out.s2 (by omega)); have hd2 := pin_sz hp1.out; have i_ := (HI_.out mid e b d _ (by omega) (by rw [hd2, hd1]; exact hs) S1.out (by omega) (by omega) (by rw [hd2, hd1]; omega) (C.out.k3 hp1.out) (C.out.k4 (by omega) hp1.out) (C.out.kx hp1.out)); rw [hd2, hd1] at i_; have HI2 := hidS i_; clear i_
                go_wp2_with (first | (go_at_call 51; first | (with_reducible refine HI2.out.mono ?_; rintro e_ w3 ⟨rfl, d3, h_1, h_2, h_3⟩; have hp2 := hidS h_1; have ht2 := hidS h_2; have S4 := asideS h_3; clear h_1 h_2 h_3)))
                all_goals
                  go_end0
                  have M := sym_end HO.out (by omega) (by omega) (by omega) (by omega) hb HMM.out HLs.out HRs.out HX.out HB.out hr0.out (fun _ _ _ => ⟨hp1.out, ht1.out⟩) (fun _ _ _ => ⟨hp2.out, ht2.out⟩)
                  exact ⟨rfl, _, M.1, M.2, S4.out⟩
              · have hr0 : Hid (Rot s m e d d) := hidS (by first | (rw [show s = m by omega]; exact rot_none_l _ _ _) | (rw [show e = m by omega]; exact rot_none_r _ _ _))
                have C := hidS (cut_of HO.out (by omega) (by omega) (by omega) (by omega) HLs.out HRs.out HX.out hr0.out HB.out.1 HB.out.2); rw [← HMM.out] at C; have hd1 := Rot.sz hr0.out; have hp1 := hidS (pin_refl d a mid); have ht1 := hidS (sorted_one C.out.s1 C.out.s2 (by omega))
                go_wp2
                all_goals
                  go_end0
                  have hp2 := hidS (pin_refl d mid b); have ht2 := hidS (sorted_one (C.out.k3 hp1.out) (C.out.k4 (by omega) hp1.out) (by omega))
                  have M := sym_end HO.out (by omega) (by omega) (by omega) (by omega) hb HMM.out HLs.out HRs.out HX.out HB.out hr0.out (fun _ _ _ => ⟨hp1.out, ht1.out⟩) (fun _ _ _ => ⟨hp2.out, ht2.out⟩)
                  exact ⟨rfl, _, M.1, M.2, S1.out⟩
            · by_cases q3 : (e : Int) < (b : Int)
              · have hr0 : Hid (Rot s m e d d) := hidS (by first | (rw [show s = m by omega]; exact rot_none_l _ _ _) | (rw [show e = m by omega]; exact rot_none_r _ _ _))
                have C := hidS (cut_of HO.out (by omega) (by omega) (by omega) (by omega) HLs.out HRs.out HX.out hr0.out HB.out.1 HB.out.2); rw [← HMM.out] at C; have hd1 := Rot.sz hr0.out; have hp1 := hidS (pin_refl d a mid); have ht1 := hidS (sorted_one C.out.s1 C.out.s2 (by omega)); have hd2 := pin_sz hp1.out; have i_ := (HI_.out mid e b d _ (by omega) (by rw [hd2, hd1]; exact hs) S1.out (by omega) (by omega) (by rw [hd2, hd1]; omega) (C.out.k3 hp1.out) (C.out.k4 (by omega) hp1.out) (C.out.kx hp1.out)); rw [hd2, hd1] at i_; have HI2 := hidS i_; clear i_
                go_wp2_with (first | (go_at_call 51; first | (with_reducible refine HI2.out.mono ?_; rintro e_ w3 ⟨rfl, d3, h_1, h_2, h_3⟩; have hp2 := hidS h_1; have ht2 := hidS h_2; have S4 := asideS h_3; clear h_1 h_2 h_3)))
                all_goals
                  go_end0
                  have M := sym_end HO.out (by omega) (by omega) (by omega) (by omega) hb HMM.out HLs.out HRs.out HX.out HB.out hr0.out (fun _ _ _ => ⟨hp1.out, ht1.out⟩) (fun _ _ _ => ⟨hp2.out, ht2.out⟩)
                  exact ⟨rfl, _, M.1, M.2, S4.out⟩
              · have hr0 : Hid (Rot s m e d d) := hidS (by first | (rw [show s = m by omega]; exact rot_none_l _ _ _) | (rw [show e = m by omega]; exact rot_none_r _ _ _))
                have C := hidS (cut_of HO.out (by omega) (by omega) (by omega) (by omega) HLs.out HRs.out HX.out hr0.out HB.out.1 HB.out.2); rw [← HMM.out] at C; have hd1 := Rot.sz hr0.out; have hp1 := hidS (pin_refl d a mid); have ht1 := hidS (sorted_one C.out.s1 C.out.s2 (by omega))
                go_wp2
                all_goals
                  go_end0
                  have hp2 := hidS (pin_refl d mid b); have ht2 := hidS (sorted_one (C.out.k3 hp1.out) (C.out.k4 (by omega) hp1.out) (by omega))
                  have M := sym_end HO.out (by omega) (by omega) (by omega) (by omega) hb HMM.out HLs.out HRs.out HX.out HB.out hr0.out (fun _ _ _ => ⟨hp1.out, ht1.out⟩) (fun _ _ _ => ⟨hp2.out, ht2.out⟩)
                  exact ⟨rfl, _, M.1, M.2, S1.out⟩
        · by_cases q1 : (m : Int) < (e : Int)
          · by_cases q2 : (a : Int) < (s : Int)
            · by_cases q3 : (e : Int) < (b : Int)
              · have hr0 : Hid (Rot s m e d d) := hidS (by first | (rw [show s = m by omega]; exact rot_none_l _ _ _) | (rw [show e = m by omega]; exact rot_none_r _ _ _))
                have C := hidS (cut_of HO.out (by omega) (by omega) (by omega) (by omega) HLs.out HRs.out HX.out hr0.out HB.out.1 HB.out.2); rw [← HMM.out] at C; have hd1 := Rot.sz hr0.out; have i_ := (HI_.out a s mid d _ (by omega) (by rw [hd1]; exact hs) S1.out (by omega) (by omega) (by rw [hd1]; omega) C.out.s1 C.out.s2 C.out.x1); rw [hd1] at i_; have HI1 := hidS i_; clear i_
                go_wp2_with (first | (go_at_call 51; first | (with_reducible refine HI1.out.mono ?_; rintro e_ w2 ⟨rfl, d2, h_1, h_2, h_3⟩; have hp1 := hidS h_1; have ht1 := hidS h_2; have S3 := asideS h_3; clear h_1 h_2 h_3)))
                all_goals
                  go_end0
                  have hp2 := hidS (pin_refl d2 mid b); have ht2 := hidS (sorted_one (C.out.k3 hp1.out) (C.out.k4 (by omega) hp1.out) (by omega))
                  have M := sym_end HO.out (by omega) (by omega) (by omega) (by omega) hb HMM.out HLs.out HRs.out HX.out HB.out hr0.out (fun _ _ _ => ⟨hp1.out, ht1.out⟩) (fun _ _ _ => ⟨hp2.out, ht2.out⟩)
                  exact ⟨rfl, _, M.1, M.2, S3.out⟩
              · have hr0 : Hid (Rot s m e d d) := hidS (by first | (rw [show s = m by omega]; exact rot_none_l _ _ _) | (rw [show e = m by omega]; exact rot_none_r _ _ _))
                have C := hidS (cut_of HO.out (by omega) (by omega) (by omega) (by omega) HLs.out HRs.out HX.out hr0.out HB.out.1 HB.out.2); rw [← HMM.out] at C; have hd1 := Rot.sz hr0.out; have i_ := (HI_.out a s mid d _ (by omega) (by rw [hd1]; exact hs) S1.out (by omega) (by omega) (by rw [hd1]; omega) C.out.s1 C.out.s2 C.out.x1); rw [hd1] at i_; have HI1 := hidS i_; clear i_
                go_wp2_with (first | (go_at_call 51; first | (with_reducible refine HI1.out.mono ?_; rintro e_ w2 ⟨rfl, d2, h_1, h_2, h_3⟩; have hp1 := hidS h_1; have ht1 := hidS h_2; have S3 := asideS h_3; clear h_1 h_2 h_3)))
                all_goals
                  go_end0
                  have hp2 := hidS (pin_refl d2 mid b); have ht2 := hidS (sorted_one (C.out.k3 hp1.out) (C.out.k4 (by omega) hp1.out) (by omega))
                  have M := sym_end HO.out (by omega) (by omega) (by omega) (by omega) hb HMM.out HLs.out HRs.out HX.out HB.out hr0.out (fun _ _ _ => ⟨hp1.out, ht1.out⟩) (fun _ _ _ => ⟨hp2.out, ht2.out⟩)
                  exact ⟨rfl, _, M.1, M.2, S3.out⟩
            · by_cases q3 : (e : Int) < (b : Int)
              · have hr0 : Hid (Rot s m e d d) := hidS (by first | (rw [show s = m by omega]; exact rot_none_l _ _ _) | (rw [show e = m by omega]; exact rot_none_r _ _ _))
                have C := hidS (cut_of HO.out (by omega) (by omega) (by omega) (by omega) HLs.out HRs.out HX.out hr0.out HB.out.1 HB.out.2); rw [← HMM.out] at C; have hd1 := Rot.sz hr0.out; have hp1 := hidS (pin_refl d a mid); have ht1 := hidS (sorted_one C.out.s1 C.out.s2 (by omega))
                go_wp2
                all_goals
                  go_end0
                  have hp2 := hidS (pin_refl d mid b); have ht2 := hidS (sorted_one (C.out.k3 hp1.out) (C.out.k4 (by omega) hp1.out) (by omega))
                  have M := sym_end HO.out (by omega) (by omega) (by omega) (by omega) hb HMM.out HLs.out HRs.out HX.out HB.out hr0.out (fun _ _ _ => ⟨hp1.out, ht1.out⟩) (fun _ _ _ => ⟨hp2.out, ht2.out⟩)
                  exact ⟨rfl, _, M.1, M.2, S1.out⟩
              · have hr0 : Hid (Rot s m e d d) := hidS (by first | (rw [show s = m by omega]; exact rot_none_l _ _ _) | (rw [show e = m by omega]; exact rot_none_r _ _ _))
                have C := hidS (cut_of HO.out (by omega) (by omega) (by omega) (by omega) HLs.out HRs.out HX.out hr0.out HB.out.1 HB.out.2); rw [← HMM.out] at C; have hd1 := Rot.sz hr0.out; have hp1 := hidS (pin_refl d a mid); have ht1 := hidS (sorted_one C.out.s1 C.out.s2 (by omega))
                go_wp2
                all_goals
                  go_end0
                  have hp2 := hidS (pin_refl d mid b); have ht2 := hidS (sorted_one (C.out.k3 hp1.out) (C.out.k4 (by omega) hp1.out) (by omega))
                  have M := sym_end HO.out (by omega) (by omega) (by omega) (by omega) hb HMM.out HLs.out HRs.out HX.out HB.out hr0.out (fun _ _ _ => ⟨hp1.out, ht1.out⟩) (fun _ _ _ => ⟨hp2.out, ht2.out⟩)
                  exact ⟨rfl, _, M.1, M.2, S1.out⟩
          · by_cases q2 : (a : Int) < (s : Int)
            · by_cases q3 : (e : Int) < (b : Int)
              · have hr0 : Hid (Rot s m e d d) := hidS (by first | (rw [show s = m by omega]; exact rot_none_l _ _ _) | (rw [show e = m by omega]; exact rot_none_r _ _ _))
                have C := hidS (cut_of HO.out (by omega) (by omega) (by omega) (by omega) HLs.out HRs.out HX.out hr0.out HB.out.1 HB.out.2); rw [← HMM.out] at C; have hd1 := Rot.sz hr0.out; have hp1 := hidS (pin_refl d a mid); have ht1 := hidS (sorted_one C.out.s1 C.out.s2 (by omega))
                go_wp2
                all_goals
                  go_end0
                  have hp2 := hidS (pin_refl d mid b); have ht2 := hidS (sorted_one (C.out.k3 hp1.out) (C.out.k4 (by omega) hp1.out) (by omega))
                  have M := sym_end HO.out (by omega) (by omega) (by omega) (by omega) hb HMM.out HLs.out HRs.out HX.out HB.out hr0.out (fun _ _ _ => ⟨hp1.out, ht1.out⟩) (fun _ _ _ => ⟨hp2.out, ht2.out⟩)
                  exact ⟨rfl, _, M.1, M.2, S1.out⟩
              · have hr0 : Hid (Rot s m e d d) := hidS (by first | (rw [show s = m by omega]; exact rot_none_l _ _ _) | (rw [show e = m by omega]; exact rot_none_r _ _ _))
                have C := hidS (cut_of HO.out (by omega) (by omega) (by omega) (by omega) HLs.out HRs.out HX.out hr0.out HB.out.1 HB.out.2); rw [← HMM.out] at C; have hd1 := Rot.sz hr0.out; have hp1 := hidS (pin_refl d a mid); have ht1 := hidS (sorted_one C.out.s1 C.out.s2 (by omega))
                go_wp2
                all_goals
                  go_end0
                  have hp2 := hidS (pin_refl d mid b); have ht2 := hidS (sorted_one (C.out.k3 hp1.out) (C.out.k4 (by omega) hp1.out) (by omega))
                  have M := sym_end HO.out (by omega) (by omega) (by omega) (by omega) hb HMM.out HLs.out HRs.out HX.out HB.out hr0.out (fun _ _ _ => ⟨hp1.out, ht1.out⟩) (fun _ _ _ => ⟨hp2.out, ht2.out⟩)
                  exact ⟨rfl, _, M.1, M.2, S1.out⟩
            · by_cases q3 : (e : Int) < (b : Int)
              · have hr0 : Hid (Rot s m e d d) := hidS (by first | (rw [show s = m by omega]; exact rot_none_l _ _ _) | (rw [show e = m by omega]; exact rot_none_r _ _ _))
                have C := hidS (cut_of HO.out (by omega) (by omega) (by omega) (by omega) HLs.out HRs.out HX.out hr0.out HB.out.1 HB.out.2); rw [← HMM.out] at C; have hd1 := Rot.sz hr0.out; have hp1 := hidS (pin_refl d a mid); have ht1 := hidS (sorted_one C.out.s1 C.out.s2 (by omega))
                go_wp2
                all_goals
                  go_end0
                  have hp2 := hidS (pin_refl d mid b); have ht2 := hidS (sorted_one (C.out.k3 hp1.out) (C.out.k4 (by omega) hp1.out) (by omega))
                  have M := sym_end HO.out (by omega) (by omega) (by omega) (by omega) hb HMM.out HLs.out HRs.out HX.out HB.out hr0.out (fun _ _ _ => ⟨hp1.out, ht1.out⟩) (fun _ _ _ => ⟨hp2.out, ht2.out⟩)
                  exact ⟨rfl, _, M.1, M.2, S1.out⟩
              · have hr0 : Hid (Rot s m e d d) := hidS (by first | (rw [show s = m by omega]; exact rot_none_l _ _ _) | (rw [show e = m by omega]; exact rot_none_r _ _ _))
                have C := hidS (cut_of HO.out (by omega) (by omega) (by omega) (by omega) HLs.out HRs.out HX.out hr0.out HB.out.1 HB.out.2); rw [← HMM.out] at C; have hd1 := Rot.sz hr0.out; have hp1 := hidS (pin_refl d a mid); have ht1 := hidS (sorted_one C.out.s1 C.out.s2 (by omega))
                go_wp2
                all_goals
                  go_end0
                  have hp2 := hidS (pin_refl d mid b); have ht2 := hidS (sorted_one (C.out.k3 hp1.out) (C.out.k4 (by omega) hp1.out) (by omega))
                  have M := sym_end HO.out (by omega) (by omega) (by omega) (by omega) hb HMM.out HLs.out HRs.out HX.out HB.out hr0.out (fun _ _ _ => ⟨hp1.out, ht1.out⟩) (fun _ _ _ => ⟨hp2.out, ht2.out⟩)
                  exact ⟨rfl, _, M.1, M.2, S1.out⟩
theorem symMerge_s {α : Type} [Inhabited α] (enc : α → Value) (cf : α → α → Int) (ls : α → α → Bool) (ix : α → Nat) (g : Nat) (cb : Array Value) (blk off cap : Nat) (d0 : Array α) (w0 : World)
    (eg : ∀ args w, (callFunc g args).run Tryd.prog w = .ok (.enter g args) w) (hcmp : CmpLays1 Tryd.prog g cb enc cf blk off d0.size w0) (R : Row1 enc w0 blk off d0) (hS : SWO ls) (hl : ∀ x y, ix x < ix y → ltOf cf y x = ls y x) (hsz : d0.size < 4611686018427387904) : ∀ N, SymAt enc cf ls ix g cb blk off cap d0 w0 N
  | 0 => fun a m b d w hN hs S ham hmb hb hL hR hX => by omega
  | N + 1 => fun a m b d w hN hs S ham hmb hb hL hR hX => by
    by_cases h0 : m = a + 1
    · exact symMerge_l enc cf ls ix g cb blk off cap d0 w0 eg hcmp R hS hl hsz a m b d w hs S ham hmb hb hL hR hX h0
    · by_cases h1 : b = m + 1
      · exact symMerge_r enc cf ls ix g cb blk off cap d0 w0 eg hcmp R hS hl hsz a m b d w hs S ham hmb hb hL hR hX h0 h1
      · exact symMerge_c enc cf ls ix g cb blk off cap d0 w0 eg hcmp R hS hl hsz N (symMerge_s enc cf ls ix g cb blk off cap d0 w0 eg hcmp R hS hl hsz N) a m b d w hN hs S ham hmb hb hL hR hX h0 h1
end

end Go.Proofs.YtdkhajgfifaibaaDoor.PA
