-- Printed for this claim by wip/tools/xprint.py over the kit's print; the contracts marked BY HAND are this session's own.
import Derived.Test.YtjiammiihamkiaaPCx0
import Derived.Test.YtjiammiihamkiaaPCx2
namespace Go.Proofs.Ytjiammiihamkiaa.PC
open Go.RowKit Go.Proofs.YtjiammiihamkiaaW.PrintWords Go.Proofs.YtjiammiihamkiaaW.PrintLast Go.Proofs.YtjiammiihamkiaaW.PrintMore
attribute [local go_sem] max2_int min2_int max_two min_two max_three min_three max_four min_four   -- for this text's walks alone
set_option linter.unusedVariables false
set_option linter.unusedSimpArgs false

-- NOT PRINTED: function 73 (api_Node_73)

-- NOT PRINTED: function 56 (api_Node_56)

-- NOT PRINTED: function 58 (api_Node_58)

-- NOT PRINTED: function 60 (slices_Clone_int_int)

/-! ### better_Front: function 42, BY HAND -/
def thanS (x y : S50) : Bool := (better_Than.f x.f0.f0 x.f0.f1 x.f0.f2 x.f0.f3 x.f0.f4 x.f0.f5 x.f0.f6 x.f0.f7 x.f1 x.f2 y.f0.f0 y.f0.f1 y.f0.f2 y.f0.f3 y.f0.f4 y.f0.f5 y.f0.f6 y.f0.f7 y.f1 y.f2).getD false
theorem than_all (x y : S50) (l m : List Int) : better_Than.f x.f0.f0 x.f0.f1 x.f0.f2 x.f0.f3 x.f0.f4 x.f0.f5 x.f0.f6 x.f0.f7 x.f1 l y.f0.f0 y.f0.f1 y.f0.f2 y.f0.f3 y.f0.f4 y.f0.f5 y.f0.f6 y.f0.f7 y.f1 m = some (thanS x y) := by
  unfold thanS better_Than.f
  split
  · split
    · unfold relax_Covers.f set_Within.f
      simp only [Option.bind_some]
      (repeat' split) <;> rfl
    · rfl
  · rfl
def better_Front.f (l0 : List S50) : Option (List S50) := if l0.length ≤ 100000 ∧ (l0.all fun x => decide (x.f2.length ≤ 100000)) = true then some (FrontPure.frontL thanS l0) else none
theorem info_int : (Try.prog.info? 3).map (fun i => (i.zero, i.size, i.bytes)) = some (some (.int .i64 0), 1, 8) := by kernel_rfl
theorem clone_row (A : Option Addr) (c : Nat) (l : List Int) (w : World) (hr : Kd.C (Kd.int .i64) w A l.length l) (hl : l.length ≤ 100000) :
    Calls Try.prog 60 #[.slice A l.length c] w fun e w' => ∃ v, e = .returned v ∧ Kd.R (Kd.int .i64) 3 w' w.heap.size (fun _ => True) v l ∧ Below w.heap.size w w' := by
  have q22 : ∀ (w : World) (a : Option Addr) (n c n' c' : Nat), (binOp .eql 32 (.slice a n c) (.slice none n' c')).run Try.prog w = .ok (.bool a.isNone) w := fun w a n c n' c' => Lib.run_eql_slice_nil w _ _ a n c n' c' Try.underlying32
  obtain ⟨i0, hi, hz0, hz1, hz2⟩ := info_parts info_int
  cases A with
  | none =>
    have h0 : l = [] := by
      cases l with
      | nil => rfl
      | cons x xs => obtain ⟨ad, e, _⟩ := hr.2.2 (by simp); cases e
    subst h0
    clear hr hl
    go_enter Try.func60, Try.ntmps60
    go_wp2
    go_ret
    exact ⟨_, rfl, Kd.R_nil _ _ _ _ _, Below.refl _ _⟩
  | some ad =>
    have AC : Aside0 (∀ j u, (encs (Value.int .i64) l)[j]? = some u → w.cell? (ad.add j) = some u) := Aside0.mk (by
      intro j u hu
      have hj : j < l.length := by
        have := (List.getElem?_eq_some_iff.1 hu).1
        rwa [encs_length] at this
      obtain ⟨ad', e, h⟩ := Kd.at_int hr (j : Int) (by omega) (by omega)
      obtain rfl := Option.some.inj e
      rw [Int.toNat_natCast] at h
      rw [h]
      have : (encs (Value.int .i64) l)[j]? = some (.int .i64 l[j]) := by simp [encs, List.getElem?_eq_getElem hj]
      rw [this] at hu
      replace hu := Option.some.inj hu
      rw [← hu]
      simp [rd, rdOf, List.getD, List.getElem?_eq_getElem hj])
    clear hr
    go_enter Try.func60, Try.ntmps60
    go_wp2_with (at_builtin; refine wpList_append_own _ rfl _ _ 32 rfl w.heap.size 3 i0 (.int .i64 0) 1 8 Try.underlying32 hi hz0 hz1 hz2 rfl (by decide) _ _ _ rfl (World.ownsRow_made w #[] 0 (Nat.le_refl _) (Nat.zero_le _) rfl) ad l.length c (encs (Value.int .i64) l) rfl ?qc1 ?qc2 ?qc3 ?qc4 ?qc5 ?qc6 ?_)
    case qc1 => simp [encs_length]
    case qc2 =>
      intro j u hj
      exact Lib.cell?_alloc_some _ (AC.out j u hj)
    case qc3 => intro u hu; obtain ⟨x, _, rfl⟩ := List.mem_map.1 hu; rfl
    case qc4 => unfold maxLen; omega
    case qc5 => omega
    case qc6 => simp
    intro v' w1 hown hgrow hnil
    go_wp2
    go_ret
    exact ⟨v', rfl, Kd.R_of_own (by simpa using hown) (fun _ _ => trivial), ((Below.refl _ w).alloc (Nat.le_refl _) _).grown hgrow (by simp) (by intro k hk; simp [Value.ownBlock] at hk; omega)⟩
theorem front1 (x y : S50) (A0 : Option Addr) (n0 c0 : Nat) (A1 : Option Addr) (n1 c1 : Nat) (g : Nat) (w : World) (hb : w.heap[g]? = some (.cells #[.int .i64 y.f0.f0, .int .i64 y.f0.f1, .int .i64 y.f0.f2, .int .i64 y.f0.f3, .int .i64 y.f0.f4, .int .u64 y.f0.f5, .int .u64 y.f0.f6, .int .u64 y.f0.f7, .int .i64 y.f1, .slice A1 n1 c1] 50 (0, 0))) :
    Calls Try.prog 57 #[.agg #[.int .i64 x.f0.f0, .int .i64 x.f0.f1, .int .i64 x.f0.f2, .int .i64 x.f0.f3, .int .i64 x.f0.f4, .int .u64 x.f0.f5, .int .u64 x.f0.f6, .int .u64 x.f0.f7, .int .i64 x.f1, .slice A0 n0 c0], .pointer (some ⟨g, 0, none⟩)] w fun e w' => e = .returned (.bool (thanS x y)) ∧ Below w.heap.size w w' := by
  obtain ⟨z0, z1, z2, z3, z4, z5, z6, z7, z8, z9, -⟩ := zqz10 (blk_alloc hb (.cells #[.int .i64 x.f0.f0, .int .i64 x.f0.f1, .int .i64 x.f0.f2, .int .i64 x.f0.f3, .int .i64 x.f0.f4, .int .u64 x.f0.f5, .int .u64 x.f0.f6, .int .u64 x.f0.f7, .int .i64 x.f1, .slice A0 n0 c0] 50))
  have HT := Aside0.mk (than_all x y [] [])
  clear hb
  go_enter Try.func57, Try.ntmps57
  go_wp2_with (go_at_call 26; (with_reducible refine (better_Than.core _ _ _ _ _ _ _ _ _ _ _ _ _ _ _ _ _ _ _ _ _ _ _ _ _ _ HT.out).mono ?_); rintro e w1 ⟨rfl, hb⟩)
  go_ret
  exact ⟨rfl, below_step (below_alloc (Below.refl _ _) _) hb⟩
theorem front2 (x y : S50) (A0 : Option Addr) (n0 c0 : Nat) (A1 : Option Addr) (n1 c1 : Nat) (g : Nat) (w : World) (hb : w.heap[g]? = some (.cells #[.int .i64 y.f0.f0, .int .i64 y.f0.f1, .int .i64 y.f0.f2, .int .i64 y.f0.f3, .int .i64 y.f0.f4, .int .u64 y.f0.f5, .int .u64 y.f0.f6, .int .u64 y.f0.f7, .int .i64 y.f1, .slice A1 n1 c1] 50 (0, 0))) :
    Calls Try.prog 59 #[.agg #[.int .i64 x.f0.f0, .int .i64 x.f0.f1, .int .i64 x.f0.f2, .int .i64 x.f0.f3, .int .i64 x.f0.f4, .int .u64 x.f0.f5, .int .u64 x.f0.f6, .int .u64 x.f0.f7, .int .i64 x.f1, .slice A0 n0 c0], .pointer (some ⟨g, 0, none⟩)] w fun e w' => e = .returned (.bool (thanS y x)) ∧ Below w.heap.size w w' := by
  obtain ⟨z0, z1, z2, z3, z4, z5, z6, z7, z8, z9, -⟩ := zqz10 (blk_alloc hb (.cells #[.int .i64 x.f0.f0, .int .i64 x.f0.f1, .int .i64 x.f0.f2, .int .i64 x.f0.f3, .int .i64 x.f0.f4, .int .u64 x.f0.f5, .int .u64 x.f0.f6, .int .u64 x.f0.f7, .int .i64 x.f1, .slice A0 n0 c0] 50))
  have HT := Aside0.mk (than_all y x [] [])
  clear hb
  go_enter Try.func59, Try.ntmps59
  go_wp2_with (go_at_call 26; (with_reducible refine (better_Than.core _ _ _ _ _ _ _ _ _ _ _ _ _ _ _ _ _ _ _ _ _ _ _ _ _ _ HT.out).mono ?_); rintro e w1 ⟨rfl, hb⟩)
  go_ret
  exact ⟨rfl, below_step (below_alloc (Below.refl _ _) _) hb⟩
theorem hidQ {p : Prop} (h : p) : Hid p := h
theorem rd_T_at {l : List S50} {i : Nat} (h : i < l.length) : rd_T50 l (i : Int) = l[i] := by unfold rd_T50; simp [List.getD, List.getElem?_eq_getElem h]
/-- What a function value over nodes gives, that holds the block g: p. -/
def Gives (fv : Nat) (g : Nat) (bs : Array Value) (p : S50 → Bool) : Prop := ∀ (x : S50) (A0 : Option Addr) (n0 c0 : Nat) (w : World), w.heap[g]? = some (.cells bs 50 (0, 0)) →
    Calls Try.prog fv #[.agg #[.int .i64 x.f0.f0, .int .i64 x.f0.f1, .int .i64 x.f0.f2, .int .i64 x.f0.f3, .int .i64 x.f0.f4, .int .u64 x.f0.f5, .int .u64 x.f0.f6, .int .u64 x.f0.f7, .int .i64 x.f1, .slice A0 n0 c0], .pointer (some ⟨g, 0, none⟩)] w fun e w' => e = .returned (.bool (p x)) ∧ Below w.heap.size w w'
/-- The first of which p says yes: its place. -/
def First (p : S50 → Bool) (l : List S50) (i : Int) : Prop := (i = -1 ∧ l.any p = false) ∨ ∃ k : Nat, ∃ h : k < l.length, i = k ∧ p l[k] = true ∧ (l.take k).any p = false
set_option maxHeartbeats 4000000 in
theorem index_func (fv : Nat) (eg : ∀ args w, (callFunc fv args).run Try.prog w = .ok (.enter fv args) w) (g : Nat) (bs : Array Value) (p : S50 → Bool) (hF : Gives fv g bs p) (A0 : Option Addr) (c0 : Nat) (l0 : List S50) (w : World) (hr0 : Kd.C k50 w A0 l0.length l0) (hb : w.heap[g]? = some (.cells bs 50 (0, 0))) :
    Calls Try.prog 73 #[.slice A0 l0.length c0, .func (.func fv) #[] #[.pointer (some ⟨g, 0, none⟩)]] w fun e w' => ∃ i : Int, e = .returned (.int .i64 i) ∧ First p l0 i ∧ Below w.heap.size w w' := by
  have hmax0 := Kd.C_max hr0
  have HR0 := hidQ hr0
  have HF := hidQ hF
  have HBX := hidQ hb
  clear hr0 hF hb
  go_enter Try.func73, Try.ntmps73
  go_wp2
  go_loopg [8] (l0.length + 1) (fun kq v8 wr => ∃ (i : Nat), Hid (kq = l0.length + 1 - i) ∧ v8 = .int .i64 (i : Int) ∧ i ≤ l0.length ∧ Hid (Below w.heap.size w wr) ∧ Hid ((l0.take i).any p = false))
  case atStart => exact ⟨0, hidQ rfl, rfl, by omega, hidQ (Below.refl _ _), hidQ rfl⟩
  case round =>
    obtain ⟨i, HI, rfl, hi, HB, HA⟩ := hrel
    by_cases hlt : i < l0.length
    · have t1 : decide ((i : Int) < (l0.length : Int)) = true := decide_eq_true (by omega)
      have t1n : decide (i < l0.length) = true := decide_eq_true (by omega)
      obtain ⟨ad, A9, c9, e1, x0, x1, x2, x3, x4, x5, x6, x7, x8, x9, -, -⟩ := at_T50 (Kd.C_below HR0.out HB.out) (i : Int) (by omega) (by omega)
      cases e1
      have p1 : (0 ≤ (i : Int)) = True := eq_true (by omega)
      have q1 : ((i : Int) < (l0.length : Int)) = True := eq_true (by omega)
      rw [rd_T_at hlt] at x0 x1 x2 x3 x4 x5 x6 x7 x8 x9
      rw [Int.toNat_natCast] at x0 x1 x2 x3 x4 x5 x6 x7 x8 x9
      have hc := hidQ (HF.out l0[i] A9 l0[i].f2.length c9 wr (blk_below HBX.out HB.out))
      obtain ⟨u, hu⟩ : ∃ u, u = l0[i] := ⟨_, rfl⟩
      rw [← hu] at x0 x1 x2 x3 x4 x5 x6 x7 x8 x9 hc
      have HU := hidQ hu
      clear hu
      cases h6 : p u with
      | true =>
        rw [h6] at hc
        have HP := hidQ h6
        clear h6
        go_wp2_with (go_at_fn fv; refine hc.out.mono ?_; rintro e w1 ⟨rfl, hb⟩; have HB1 := hidQ (below_step HB.out hb); clear hb)
        go_ret
        exact ⟨_, rfl, .inr ⟨i, hlt, rfl, by rw [← HU.out]; exact HP.out, HA.out⟩, HB1.out⟩
      | false =>
        rw [h6] at hc
        have HNX : Hid ((l0.take (i + 1)).any p = false) := hidQ (by
          rw [List.take_succ_eq_append_getElem hlt, List.any_append, HA.out, ← HU.out]
          simp [h6])
        clear h6
        go_wp2_with (go_at_fn fv; refine hc.out.mono ?_; rintro e w1 ⟨rfl, hb⟩; have HB1 := hidQ (below_step HB.out hb); clear hb)
        go_roundg (l0.length + 1 - (i + 1))
        case measure => have := HI.out; omega
        case rel => exact ⟨i + 1, hidQ rfl, by go_num, by omega, hidQ HB1.out, HNX⟩
    · have t1 : decide ((i : Int) < (l0.length : Int)) = false := decide_eq_false (by omega)
      have t1n : decide (i < l0.length) = false := decide_eq_false (by omega)
      have HNX : Hid ((l0.any p) = false) := hidQ (by have := HA.out; rwa [List.take_of_length_le (by omega)] at this)
      go_wp2
      go_ret
      exact ⟨_, rfl, .inl ⟨rfl, HNX.out⟩, HB.out⟩
set_option maxHeartbeats 4000000 in
theorem contains_func (fv : Nat) (eg : ∀ args w, (callFunc fv args).run Try.prog w = .ok (.enter fv args) w) (g : Nat) (bs : Array Value) (p : S50 → Bool) (hF : Gives fv g bs p) (A0 : Option Addr) (c0 : Nat) (l0 : List S50) (w : World) (hr0 : Kd.C k50 w A0 l0.length l0) (hb : w.heap[g]? = some (.cells bs 50 (0, 0))) :
    Calls Try.prog 56 #[.slice A0 l0.length c0, .func (.func fv) #[] #[.pointer (some ⟨g, 0, none⟩)]] w fun e w' => e = .returned (.bool (l0.any p)) ∧ Below w.heap.size w w' := by
  have HC := hidQ (index_func fv eg g bs p hF A0 c0 l0 w hr0 hb)
  clear hr0 hF hb
  go_enter Try.func56, Try.ntmps56
  go_wp2_with (go_at_call 73; (with_reducible refine HC.out.mono ?_); rintro e w1 ⟨i, rfl, hd, hb⟩; have HD := hidQ hd; have HB := hidQ hb; clear hd hb)
  go_ret
  refine ⟨?_, HB.out⟩
  rcases HD.out with ⟨rfl, h⟩ | ⟨k, hk, rfl, h, -⟩
  · rw [h]; rfl
  · have : l0.any p = true := List.any_eq_true.2 ⟨_, List.getElem_mem hk, h⟩
    rw [this]
    simp
/-- Element i of a row of nodes of one's own: its cells, and what it leads to. -/
theorem elem_own {w : World} {base n cap : Nat} {ok : Nat → Prop} {ad : Addr} {xs : List S50} (h : Kd.R k50 50 w base ok (.slice (some ad) n cap) xs) (i : Nat) (hi : i < xs.length) :
    ∃ A9 c9, w.cell? (ad.add (i * 10)) = some (.int .i64 xs[i].f0.f0) ∧ w.cell? ⟨(ad.add (i * 10)).block, (ad.add (i * 10)).off + 1, none⟩ = some (.int .i64 xs[i].f0.f1) ∧ w.cell? ⟨(ad.add (i * 10)).block, (ad.add (i * 10)).off + 2, none⟩ = some (.int .i64 xs[i].f0.f2) ∧ w.cell? ⟨(ad.add (i * 10)).block, (ad.add (i * 10)).off + 3, none⟩ = some (.int .i64 xs[i].f0.f3) ∧ w.cell? ⟨(ad.add (i * 10)).block, (ad.add (i * 10)).off + 4, none⟩ = some (.int .i64 xs[i].f0.f4) ∧ w.cell? ⟨(ad.add (i * 10)).block, (ad.add (i * 10)).off + 5, none⟩ = some (.int .u64 xs[i].f0.f5) ∧ w.cell? ⟨(ad.add (i * 10)).block, (ad.add (i * 10)).off + 6, none⟩ = some (.int .u64 xs[i].f0.f6) ∧ w.cell? ⟨(ad.add (i * 10)).block, (ad.add (i * 10)).off + 7, none⟩ = some (.int .u64 xs[i].f0.f7) ∧ w.cell? ⟨(ad.add (i * 10)).block, (ad.add (i * 10)).off + 8, none⟩ = some (.int .i64 xs[i].f1) ∧ w.cell? ⟨(ad.add (i * 10)).block, (ad.add (i * 10)).off + 9, none⟩ = some (.slice A9 xs[i].f2.length c9) ∧ k50.M w base (fun k => ok k ∧ some k ≠ (Value.slice (some ad) n cap).ownBlock) xs[i] [.int .i64 xs[i].f0.f0, .int .i64 xs[i].f0.f1, .int .i64 xs[i].f0.f2, .int .i64 xs[i].f0.f3, .int .i64 xs[i].f0.f4, .int .u64 xs[i].f0.f5, .int .u64 xs[i].f0.f6, .int .u64 xs[i].f0.f7, .int .i64 xs[i].f1, .slice A9 xs[i].f2.length c9] := by
  have hn := (Kd.R_reads' h).1
  obtain ⟨c, hcl, hM, hcc⟩ := Kd.R_get h z50 (i : Int) (by omega) (by omega)
  have hx : xs.getD (i : Int).toNat z50 = xs[i] := by rw [Int.toNat_natCast]; simp [List.getD, List.getElem?_eq_getElem hi]
  rw [hx] at hM
  rw [Int.toNat_natCast] at hcc
  have hM2 := hM
  obtain ⟨v9, rfl, g9⟩ := k50_openM hM
  obtain ⟨A9, c9, rfl⟩ := Kd.R_slice g9
  have hc : ∀ j u, _ → w.cell? (ad.add (i * 10 + j)) = some u := hcc
  exact ⟨A9, c9, hc 0 _ rfl, by rw [← add_field _ _ 1 (by omega)]; exact hc 1 _ rfl, by rw [← add_field _ _ 2 (by omega)]; exact hc 2 _ rfl, by rw [← add_field _ _ 3 (by omega)]; exact hc 3 _ rfl, by rw [← add_field _ _ 4 (by omega)]; exact hc 4 _ rfl, by rw [← add_field _ _ 5 (by omega)]; exact hc 5 _ rfl, by rw [← add_field _ _ 6 (by omega)]; exact hc 6 _ rfl, by rw [← add_field _ _ 7 (by omega)]; exact hc 7 _ rfl, by rw [← add_field _ _ 8 (by omega)]; exact hc 8 _ rfl, by rw [← add_field _ _ 9 (by omega)]; exact hc 9 _ rfl, hM2⟩
/-- The rest of a row is zeroed and cut off. -/
theorem R_cut {w : World} {base n cap g m : Nat} {ok : Nat → Prop} {xs : List S50} (h : Kd.R k50 50 w base ok (.slice (some ⟨g, 0, none⟩) n cap) xs) (hm : m ≤ xs.length) (vs : List Value) (hl : m * 10 + vs.length ≤ n * 10) :
    Kd.R k50 50 (w.setCells g (m * 10) vs) base ok (.slice (some ⟨g, 0, none⟩) m cap) (xs.take m) ∧ w.grownBy (w.setCells g (m * 10) vs) (some g) := by
  have hn := (Kd.R_reads' h).1
  obtain ⟨s1, s2, s3, s4⟩ := setCells_same g vs (m * 10) w
  have hg : w.grownBy (w.setCells g (m * 10) vs) (some g) := ⟨s1, s2, s3, by rw [s4]; exact Nat.le_refl _, fun k _ hk => setCells_far vs _ k (fun he => hk (by rw [he]))⟩
  refine ⟨?_, hg⟩
  obtain ⟨h0, inner, ho, hr⟩ := Kd.R_take h hm
  refine ⟨h0, inner, ?_, hr.imp_ (fun _ _ hp => Kd.M_step hp (fun k hk _ => setCells_far vs _ k (fun he => hk.2 (by rw [he]; simp [Value.ownBlock]))))⟩
  have hlen : (xs.take m).length = m := by rw [List.length_take]; omega
  obtain ⟨h1, h2⟩ := ho
  refine ⟨h1, ?_⟩
  rcases h2 with ⟨hv, _⟩ | ⟨g', cap', cur, hv, hb, hh, hnc, hcm, hcs, ht⟩
  · cases hv
  · injection hv with ha h2 h3
    injection ha with ha
    injection ha with ha
    subst ha; subst h3
    rw [hlen] at hnc ht
    have hcap : n ≤ cap := (Kd.R_reads' h).2.1
    have hsz : k50.sz = 10 := rfl
    rw [hsz] at hcs ht
    have hfit : m * 10 + vs.length ≤ cur.size := by rw [hcs]; exact Nat.le_trans hl (Nat.mul_le_mul_right _ hcap)
    obtain ⟨cur', c1, c2, c3⟩ := setCells_row vs (m * 10) w cur hh hfit
    refine .inr ⟨g, cap, cur', by rw [hlen], hb, c1, by rw [hlen]; exact hnc, hcm, by rw [c2, hcs, hsz], ?_⟩
    rw [hlen, hsz, c3, List.append_assoc, List.take_append_of_le_length (by rw [List.length_take, Array.length_toList]; omega), List.take_take, Nat.min_self]
    exact ht
/-- What stands in the row in the midst of the deletion. -/
def Del (p : S50 → Bool) (xs ys : List S50) (i j : Nat) : Prop := ys.length = xs.length ∧ ys.take i = (xs.take j).filter (fun x => !p x) ∧ ys.drop j = xs.drop j ∧ i < j
theorem Del.skip {p : S50 → Bool} {xs ys : List S50} {i j : Nat} (h : Del p xs ys i j) (hj : j < xs.length) (hp : p xs[j] = true) : Del p xs ys i (j + 1) := by
  obtain ⟨h1, h2, h3, h4⟩ := h
  refine ⟨h1, ?_, ?_, by omega⟩
  · rw [List.take_succ_eq_append_getElem hj, List.filter_append, ← h2]
    simp [hp]
  · rw [← List.drop_drop, ← List.drop_drop, h3]
theorem Del.at {p : S50 → Bool} {xs ys : List S50} {i j : Nat} (h : Del p xs ys i j) (hj : j < xs.length) (hj' : j < ys.length) : ys[j] = xs[j] := by
  have h3 := h.2.2.1
  rw [List.drop_eq_getElem_cons hj, List.drop_eq_getElem_cons hj'] at h3
  injection h3
theorem Del.keep {p : S50 → Bool} {xs ys : List S50} {i j : Nat} (h : Del p xs ys i j) (hj : j < xs.length) (hp : p xs[j] = false) : Del p xs (ys.set i xs[j]) (i + 1) (j + 1) := by
  obtain ⟨h1, h2, h3, h4⟩ := h
  refine ⟨by rw [List.length_set]; exact h1, ?_, ?_, by omega⟩
  · have hi : i < (ys.set i xs[j]).length := by rw [List.length_set]; omega
    rw [List.take_succ_eq_append_getElem hi, List.take_succ_eq_append_getElem hj, List.filter_append, ← h2, List.take_set_of_le (Nat.le_refl _)]
    simp [hp]
  · rw [List.drop_set_of_lt (by omega), ← List.drop_drop, ← List.drop_drop, h3]
theorem Del.start {p : S50 → Bool} {xs : List S50} {k : Nat} (hk : k < xs.length) (hp : p xs[k] = true) (ha : (xs.take k).any p = false) : Del p xs xs k (k + 1) := by
  refine ⟨rfl, ?_, rfl, by omega⟩
  rw [List.take_succ_eq_append_getElem hk, List.filter_append]
  have e : (xs.take k).filter (fun x => !p x) = xs.take k := List.filter_eq_self.2 (fun x hx => by
    have := List.any_eq_false.1 ha x hx
    simpa using this)
  rw [e]
  simp [hp]
theorem gate_store {P : Program} {ops : Array Oper} {Q : Exit → Act → World → Prop} {rest : List Oper} {o : Oper} {a : Act} {w : World} (t p x : Nat) (_ho : o.op = .store t (.tmp p) (.tmp x)) (h : wpList P ops Q (o :: rest) a w) : wpList P ops Q (o :: rest) a w := h
theorem run_clear_many {P : Program} (w : World) (t e ty : TypeId) (i : TypeInfo) (z : Value) (ht : P.underlying t = some (.slice e)) (hi : P.info? e = some i) (hz : i.zero = some z) (b o n c : Nat) (hn : 0 < n) (zs : List Value) (hzs : (Builtin.zeroCells z.cells n).toList = zs)
    (hc : ∀ j, j < zs.length → (w.cell? ⟨b, o + j, none⟩).isSome = true) (hf : ∀ j, j < zs.length → w.frozen? ⟨b, o + j, none⟩ = false) (h1 : ∀ v ∈ zs, v.oneCell' = true) :
    (Builtin.clear_ #[t] ty #[.slice (some ⟨b, o, none⟩) n c]).run P w = .ok (.tuple #[]) (w.setCells b o zs) := by
  have hst := run_storeCells_cells (P := P) b o zs 0 w hc hf h1
  simp only [Nat.add_zero] at hst
  have hv : (zeroValue e).run P w = .ok z w := by simp [zeroValue, typeInfo, hi, hz]
  obtain ⟨m, rfl⟩ : ∃ m, n = m + 1 := ⟨n - 1, by omega⟩
  simp [Builtin.clear_, run_underlying ht, hv, hzs, hst]
theorem zero_one (z : Array Value) (h0 : 0 < z.size) (h : ∀ v ∈ z.toList, v.oneCell' = true) (n : Nat) : ∀ v ∈ (Builtin.zeroCells z n).toList, v.oneCell' = true := by
  intro v hv
  unfold Builtin.zeroCells at hv
  rw [Array.toList_map] at hv
  obtain ⟨k, _, rfl⟩ := List.mem_map.1 hv
  have hk := Nat.mod_lt k h0
  rw [getElem!_pos z (k % z.size) hk]
  exact h _ (by simp)
theorem R_some {w : World} {base n cap g : Nat} {ok : Nat → Prop} {xs : List S50} (h : Kd.R k50 50 w base ok (.slice (some ⟨g, 0, none⟩) n cap) xs) (q : Nat) (hq : q < n * 10) : (w.cell? ⟨g, q, none⟩).isSome = true := by
  have hcap := (Kd.R_reads' h).2.1
  obtain ⟨_, inner, ho, _⟩ := h
  rcases ho.2 with ⟨hv, _⟩ | ⟨g', cap', cur, hv, hb, hh, hnc, hcm, hcs, ht⟩
  · cases hv
  · injection hv with ha h2 h3
    injection ha with ha
    injection ha with ha
    subst ha; subst h3
    rw [blk_cell hh]
    have hsz : k50.sz = 10 := rfl
    rw [hsz] at hcs
    have : q < cur.size := by rw [hcs]; exact Nat.lt_of_lt_of_le hq (Nat.mul_le_mul_right _ hcap)
    simp [Array.getElem?_eq_getElem this]
theorem info_node : (Try.prog.info? 50).map (fun i => (i.zero, i.size, i.bytes)) = some (some (.agg #[.int .i64 0, .int .i64 0, .int .i64 0, .int .i64 0, .int .i64 0, .int .u64 0, .int .u64 0, .int .u64 0, .int .i64 0, .slice none 0 0]), 10, 96) := by kernel_rfl
theorem below_then' {base : Nat} {w W w1 : World} {o : Obj} (hbase : base ≤ w.heap.size) (hs : w.heap.size ≤ W.heap.size) (hb : Below (W.alloc o).heap.size (W.alloc o) w1) : Below base W w1 :=
  (below_then (below_alloc (Below.refl W.heap.size W) o) (by rw [World.size_alloc]; omega) hb).mono (Nat.le_trans hbase hs)
set_option maxHeartbeats 1000000 in
theorem delete_func (fv : Nat) (eg : ∀ args w, (callFunc fv args).run Try.prog w = .ok (.enter fv args) w) (g : Nat) (bs : Array Value) (p : S50 → Bool) (hF : Gives fv g bs p) (A0 : Option Addr) (c0 : Nat) (xs : List S50) (w : World) (base : Nat) (hbase : base ≤ w.heap.size) (HO : Kd.R k50 50 w base (fun k => k ≠ g) (.slice A0 xs.length c0) xs) (hb : w.heap[g]? = some (.cells bs 50 (0, 0))) :
    Calls Try.prog 58 #[.slice A0 xs.length c0, .func (.func fv) #[] #[.pointer (some ⟨g, 0, none⟩)]] w fun e w' => ∃ v, e = .returned v ∧ Kd.R k50 50 w' base (fun k => k ≠ g) v (xs.filter fun x => !p x) ∧ Below base w w' ∧ w'.heap[g]? = some (.cells bs 50 (0, 0)) := by
  have HC := hidQ (index_func fv eg g bs p hF A0 c0 xs w (Kd.R_reads' HO).2.2 hb)
  have hmax0 := Kd.C_max (Kd.R_reads' HO).2.2
  by_cases hany : xs.any p = false
  · have HA := hidQ hany
    have HR := hidQ HO
    have HX := hidQ hb
    clear hF hb HO hany
    go_enter Try.func58, Try.ntmps58
    go_wp2_with (go_at_call 73; (with_reducible refine HC.out.mono ?_); rintro e w1 ⟨i, rfl, hd, hb⟩; have hd1 : i = -1 := (by rcases hd with ⟨h, -⟩ | ⟨k, hk, h, h2, -⟩; (exact h); (exfalso; have h3 := HA.out; rw [List.any_eq_false] at h3; exact h3 _ (List.getElem_mem hk) h2)); subst hd1; have HB := hidQ hb; clear hd hb)
    go_ret
    refine ⟨_, rfl, ?_, HB.out.mono hbase, blk_below HX.out HB.out⟩
    rw [List.filter_eq_self.2 (fun x hx => by have := List.any_eq_false.1 HA.out x hx; simpa using this)]
    exact Kd.R_below HR.out HB.out
  · have hne : 0 < xs.length := by
      cases xs with
      | nil => exact absurd rfl hany
      | cons x xs => simp
    obtain ⟨gr, cap, e, hgb, hgl, -⟩ := Kd.R_form HO hne
    injection e with e1 e2 e3
    subst e1; subst e3
    obtain ⟨ad, had⟩ : ∃ ad : Addr, ad = ⟨gr, 0, none⟩ := ⟨_, rfl⟩
    have hcap := (Kd.R_reads' HO).2.1
    have hgne : gr ≠ g := HO.1 gr (by simp [Value.ownBlock])
    rw [← had] at HO HC ⊢
    have HAD := hidQ had
    have HR := hidQ HO
    have HX := hidQ hb
    have HF := hidQ hF
    have HNE := hidQ hgne
    have HANY := hidQ hany
    have HGB := hidQ hgb
    have HBASE := hidQ hbase
    clear hF hb HO hany had hgne hgb hgl hbase
    go_enter Try.func58, Try.ntmps58
    go_wp2_with (go_at_call 73; (with_reducible refine HC.out.mono ?_); rintro e w1 ⟨i, rfl, hd, hb⟩; (obtain ⟨k, hk, rfl, h2, h3⟩ : ∃ k : Nat, ∃ h : k < xs.length, i = k ∧ p xs[k] = true ∧ (xs.take k).any p = false := (by rcases hd with ⟨h, h2⟩ | h; (exact absurd h2 HANY.out); (exact h))); have hn1 : ((k : Int) == -1) = false := beq_eq_false_iff_ne.2 (by omega); have HB := hidQ (hb.mono HBASE.out); have HR1 := hidQ (Kd.R_below HR.out hb); have HX1 := hidQ (blk_below HX.out hb); have HK := hidQ (And.intro h2 h3); clear hd hb h2 h3 HR HX)
    go_loopg [5, 6] (xs.length + 1 - (k + 1)) (fun kq v5 v6 wr => ∃ (i j : Nat) (ys : List S50), Hid (kq = xs.length + 1 - j) ∧ v5 = .int .i64 (i : Int) ∧ v6 = .int .i64 (j : Int) ∧ j ≤ xs.length ∧ Hid (Del p xs ys i j) ∧ Hid (Kd.R k50 50 wr base (fun k => k ≠ g) (.slice (some ad) xs.length c0) ys) ∧ Hid (Below base w wr) ∧ Hid (wr.heap[g]? = some (.cells bs 50 (0, 0))) ∧ Hid (w.heap.size ≤ wr.heap.size))
    case atStart => exact ⟨k, k + 1, xs, hidQ rfl, rfl, by go_num, by omega, hidQ (Del.start hk HK.out.1 HK.out.2), hidQ HR1.out, hidQ HB.out, hidQ HX1.out, hidQ HB.out.size⟩
    case round =>
      obtain ⟨i, j, ys, HI, rfl, rfl, hj, HD, HRr, HBr, HXr, HS⟩ := hrel
      clear HR1 HX1 HB HK
      have hij : i < j := HD.out.2.2.2
      have hyl : ys.length = xs.length := HD.out.1
      by_cases hlt : j < xs.length
      · have t1 : decide ((j : Int) < (xs.length : Int)) = true := decide_eq_true (by omega)
        have t1n : decide (j < xs.length) = true := decide_eq_true (by omega)
        have p1 : (0 ≤ (j : Int)) = True := eq_true (by omega)
        have q1 : ((j : Int) < (xs.length : Int)) = True := eq_true (by omega)
        have p2 : (0 ≤ (i : Int)) = True := eq_true (by omega)
        have q2 : ((i : Int) < (xs.length : Int)) = True := eq_true (by omega)
        obtain ⟨A9, c9, x0, x1, x2, x3, x4, x5, x6, x7, x8, x9, hM⟩ := elem_own HRr.out j (by omega)
        have hU := HD.out.at hlt (by omega)
        rw [hU] at x0 x1 x2 x3 x4 x5 x6 x7 x8 x9 hM
        obtain ⟨u, hu⟩ : ∃ u, u = xs[j] := ⟨_, rfl⟩
        rw [← hu] at x0 x1 x2 x3 x4 x5 x6 x7 x8 x9 hM
        have HM := hidQ hM
        have HU := hidQ hu
        clear hM hU hu
        cases h6 : p u with
        | true =>
          have HP := hidQ h6
          have hc := fun W h => (HF.out u A9 u.f2.length c9 W h)
          rw [h6] at hc
          have HCL := hidQ hc
          clear h6 hc
          go_wp2_with (go_at_fn fv; refine (HCL.out _ (blk_alloc HXr.out _)).mono ?_; rintro e w2 ⟨rfl, hb⟩; have HB2 := hidQ (HBr.out.trans (below_then' HBASE.out HS.out hb)); have HR2 := hidQ (Kd.R_below (Kd.R_alloc HRr.out _) hb); have HX2 := hidQ (blk_below (blk_alloc HXr.out _) hb); have HS2 := hidQ (Nat.le_trans HS.out (Nat.le_trans (by simp) hb.size)); clear hb)
          go_roundg (xs.length + 1 - (j + 1))
          case measure => have := HI.out; omega
          case rel => exact ⟨i, j + 1, ys, hidQ rfl, rfl, by go_num, by omega, hidQ (HD.out.skip hlt (by rw [← HU.out]; exact HP.out)), HR2, HB2, HX2, HS2⟩
        | false =>
          have HP := hidQ h6
          have hc := fun W h => (HF.out u A9 u.f2.length c9 W h)
          rw [h6] at hc
          have HCL := hidQ hc
          clear h6 hc
          go_wp2_with (first | (go_at_fn fv; refine (HCL.out _ (blk_alloc HXr.out _)).mono ?_; rintro e w2 ⟨rfl, hb⟩; have HB2 := hidQ (HBr.out.trans (below_then' HBASE.out HS.out hb)); have HR2 := hidQ (Kd.R_below (Kd.R_alloc HRr.out _) hb); have HM2 := hidQ (Kd.M_below (Kd.M_alloc HM.out _) hb); have HX2 := hidQ (blk_below (blk_alloc HXr.out _) hb); have HS2 := hidQ (Nat.le_trans HS.out (Nat.le_trans (by simp) hb.size)); obtain ⟨z0, z1, z2, z3, z4, z5, z6, z7, z8, z9, -⟩ := zqz10 (blk_below (blk_new wr (.cells #[.int .i64 u.f0.f0, .int .i64 u.f0.f1, .int .i64 u.f0.f2, .int .i64 u.f0.f3, .int .i64 u.f0.f4, .int .u64 u.f0.f5, .int .u64 u.f0.f6, .int .u64 u.f0.f7, .int .i64 u.f1, .slice A9 u.f2.length c9] 50)) hb); clear hb) | ((with_reducible refine gate_store 50 33 32 rfl ?_); have hr3 := HR2.out; rw [HAD.out] at hr3; obtain ⟨cOld, hcl, -, hcc, -⟩ := Kd.R_elem hr3 z50 (i : Int) (by omega) (by omega); refine Kd.R_store k50 (w0 := w) base rfl rfl 50 (.tmp 33) (.tmp 32) rfl 50 (i : Int) 0 ys u (.agg #[.int .i64 u.f0.f0, .int .i64 u.f0.f1, .int .i64 u.f0.f2, .int .i64 u.f0.f3, .int .i64 u.f0.f4, .int .u64 u.f0.f5, .int .u64 u.f0.f6, .int .u64 u.f0.f7, .int .i64 u.f1, .slice A9 u.f2.length c9]) [.int .i64 u.f0.f0, .int .i64 u.f0.f1, .int .i64 u.f0.f2, .int .i64 u.f0.f3, .int .i64 u.f0.f4, .int .u64 u.f0.f5, .int .u64 u.f0.f6, .int .u64 u.f0.f7, .int .i64 u.f1, .slice A9 u.f2.length c9] cOld (fun k => k ≠ g) (fun k => k ≠ g ∧ some k ≠ (Value.slice (some ad) xs.length c0).ownBlock) (o' := i * 10) ?qa ?qo rfl rfl (by kernel_rfl) ?q1 hr3 (by omega) (by omega) hcl hcc ?qj ?qM ?qk HB2.out ?_; (case qa => show Value.pointer (some (ad.add (i * 10))) = _; rw [HAD.out, add_at, Nat.zero_add]); (case qo => rw [Int.toNat_natCast]; rfl); (case q1 => intro q hq; exact k50.K_one (k50.K_of_M HM2.out) q hq); (case qj => exact Nat.le_refl 10); (case qM => rw [List.take_zero, List.nil_append, List.drop_eq_nil_of_le (by rw [hcl]; exact Nat.le_refl 10), List.append_nil]; exact HM2.out); (case qk => exact fun k hk => ⟨hk.1, fun he => hk.2 (by rw [HAD.out, he]; rfl)⟩); intro w3 h3 hb3 hg3; rw [Int.toNat_natCast, ← HAD.out] at h3; have HR4 := hidQ h3; have HB4 := hidQ hb3; have HX4 := hidQ (blk_grown HX2.out hg3 (fun e => HNE.out (Option.some.inj e).symm)); have HS4 := hidQ (Nat.le_trans HS2.out hg3.size); clear h3 hb3 hg3 hcl hcc hr3))
          go_roundg (xs.length + 1 - (j + 1))
          case measure => have := HI.out; omega
          case rel => exact ⟨i + 1, j + 1, ys.set i u, hidQ rfl, by go_num, by go_num, by omega, hidQ (by have := HD.out.keep hlt (by rw [← HU.out]; exact HP.out); rwa [← HU.out] at this), HR4, HB4, HX4, HS4⟩
      · have t1 : decide ((j : Int) < (xs.length : Int)) = false := decide_eq_false (by omega)
        have t1n : decide (j < xs.length) = false := decide_eq_false (by omega)
        obtain ⟨i0, hi0, hz0, hz1, hz2⟩ := info_parts info_node
        have hr3 := HRr.out
        rw [HAD.out] at hr3
        have hzl : (Builtin.zeroCells (Value.agg #[.int .i64 0, .int .i64 0, .int .i64 0, .int .i64 0, .int .i64 0, .int .u64 0, .int .u64 0, .int .u64 0, .int .i64 0, .slice none 0 0]).cells (xs.length - i)).toList.length = (xs.length - i) * 10 := by rw [Array.length_toList, size_zeroCells]; rfl
        have hone : ∀ v ∈ (Builtin.zeroCells (Value.agg #[.int .i64 0, .int .i64 0, .int .i64 0, .int .i64 0, .int .i64 0, .int .u64 0, .int .u64 0, .int .u64 0, .int .i64 0, .slice none 0 0]).cells (xs.length - i)).toList, v.oneCell' = true := zero_one _ (by decide) (by decide) _
        obtain ⟨zs, hzs⟩ : ∃ zs, zs = (Builtin.zeroCells (Value.agg #[.int .i64 0, .int .i64 0, .int .i64 0, .int .i64 0, .int .i64 0, .int .u64 0, .int .u64 0, .int .u64 0, .int .i64 0, .slice none 0 0]).cells (xs.length - i)).toList := ⟨_, rfl⟩
        rw [← hzs] at hzl hone
        obtain ⟨cells, hcells⟩ := Kd.R_typed hr3 gr (by simp [Value.ownBlock])
        have hcl : ∀ ty, (Builtin.clear_ #[73] ty #[.slice (some (ad.add (i * 10))) (xs.length - i) (c0 - i)]).run Try.prog wr = .ok (.tuple #[]) (wr.setCells gr (i * 10) zs) := fun ty => by
          rw [HAD.out, add_at, Nat.zero_add]
          exact run_clear_many wr _ _ ty _ _ Try.underlying73 hi0 hz0 gr (i * 10) _ _ (by omega) zs hzs.symm (fun j hj => R_some hr3 _ (by omega)) (fun j _ => blk_frozen hcells _) hone
        have hcut := R_cut hr3 (m := i) (by omega) zs (by omega)
        have HCUT := hidQ hcut
        clear hcut hcells hzs hone hr3
        go_wp2
        go_ret
        have hjl : j = xs.length := by omega
        have hf := HD.out.2.1
        rw [hjl, List.take_of_length_le (Nat.le_refl _)] at hf
        have h1 := HCUT.out.1
        rw [← HAD.out, hf] at h1
        exact ⟨_, rfl, h1, HBr.out.grown HCUT.out.2 (Nat.le_trans HBASE.out HS.out) (fun k hk => by rw [← Option.some.inj hk]; exact HGB.out), blk_grown HXr.out HCUT.out.2 (fun e => HNE.out (Option.some.inj e).symm)⟩
theorem enters_f1 : ∀ args w, (callFunc 57 args).run Try.prog w = .ok (.enter 57 args) w := enters_of Try.func57 (by kernel_rfl) rfl
theorem enters_f2 : ∀ args w, (callFunc 59 args).run Try.prog w = .ok (.enter 59 args) w := enters_of Try.func59 (by kernel_rfl) rfl
theorem filter_room {α : Type} (q : α → Bool) (xs : List α) (h : xs.length ≤ 100000) : ((xs.filter q).length + 1) * 96 ≤ 140737488355328 := by
  have := List.length_filter_le q xs
  omega
theorem frontL_succ (l : List S50) (i : Nat) (hi : i < l.length) : FrontPure.frontL thanS (l.take (i + 1)) = FrontPure.fstep thanS (FrontPure.frontL thanS (l.take i)) l[i] := by
  rw [List.take_succ_eq_append_getElem hi, FrontPure.frontL_snoc]
set_option maxHeartbeats 2000000 in
theorem better_Front.calls (A0 : Option Addr) (c0 : Nat) (l0 : List S50) (r : List S50) (w : World) (hr0 : Kd.C k50 w A0 l0.length l0) (hc0 : l0.length ≤ c0) (h : better_Front.f l0 = some r) :
    Calls Try.prog 42 #[.slice A0 l0.length c0] w fun e w' => ∃ v0_ : Value, e = .returned (v0_) ∧ Kd.R k50 50 w' w.heap.size (fun _ => True) v0_ r ∧ Below w.heap.size w w' := by
  unfold better_Front.f at h
  split at h
  case isFalse => cases h
  case isTrue hc =>
  obtain ⟨hn, hp⟩ := hc
  obtain rfl := Option.some.inj h
  have HP := hidQ (List.all_eq_true.1 hp)
  have hmax0 := Kd.C_max hr0
  have HR0 := hidQ hr0
  clear h hp hr0 hc0
  go_enter Try.func42, Try.ntmps42
  go_wp2
  go_loopg [3, 8] (l0.length) (fun kq v3 v8 wr => ∃ (i : Nat), Hid (kq = l0.length - i) ∧ v8 = .int .i64 (i : Int) ∧ i ≤ l0.length ∧ Hid (Kd.R k50 50 wr w.heap.size (fun _ => True) v3 (FrontPure.frontL thanS (l0.take i))) ∧ Hid (Below w.heap.size w wr))
  case atStart => exact ⟨0, hidQ rfl, rfl, by omega, hidQ (Kd.R_nil _ _ _ _ _), hidQ (Below.refl _ _)⟩
  case round =>
    obtain ⟨i, HI, rfl, hi, HO, HB⟩ := hrel
    by_cases hlt : i < l0.length
    · have t1 : decide ((i : Int) < (l0.length : Int)) = true := decide_eq_true (by omega)
      have t1n : decide (i < l0.length) = true := decide_eq_true (by omega)
      obtain ⟨ad, A9, c9, e1, x0, x1, x2, x3, x4, x5, x6, x7, x8, x9, l9, g9⟩ := at_T50 HR0.out (i : Int) (by omega) (by omega)
      cases e1
      replace x0 := pw_cell_below HB.out x0
      replace x1 := pw_cell_below HB.out x1
      replace x2 := pw_cell_below HB.out x2
      replace x3 := pw_cell_below HB.out x3
      replace x4 := pw_cell_below HB.out x4
      replace x5 := pw_cell_below HB.out x5
      replace x6 := pw_cell_below HB.out x6
      replace x7 := pw_cell_below HB.out x7
      replace x8 := pw_cell_below HB.out x8
      replace x9 := pw_cell_below HB.out x9
      have p1 : (0 ≤ (i : Int)) = True := eq_true (by omega)
      have q1 : ((i : Int) < (l0.length : Int)) = True := eq_true (by omega)
      rw [rd_T_at hlt] at x0 x1 x2 x3 x4 x5 x6 x7 x8 x9 l9 g9
      rw [Int.toNat_natCast] at x0 x1 x2 x3 x4 x5 x6 x7 x8 x9
      have hstep := frontL_succ l0 i hlt
      have hpy := of_decide_eq_true (HP.out _ (List.getElem_mem hlt))
      obtain ⟨y, hy⟩ : ∃ y, y = l0[i] := ⟨_, rfl⟩
      rw [← hy] at x0 x1 x2 x3 x4 x5 x6 x7 x8 x9 l9 g9 hstep hpy
      obtain ⟨xs, hxs⟩ : ∃ xs, xs = FrontPure.frontL thanS (l0.take i) := ⟨_, rfl⟩
      have hxl : xs.length ≤ i := by
        have := FrontPure.frontL_length (th := thanS) (l0.take i)
        rw [← hxs, List.length_take] at this
        omega
      have ho := HO.out
      rw [← hxs] at ho hstep
      have HST := hidQ hstep
      obtain ⟨A3, c3, rfl⟩ := Kd.R_slice ho
      have HO3 := hidQ ho
      have HG9 := hidQ g9
      have HC9 := hidQ l9
      clear HO ho hy hxs hstep g9 l9
      by_cases h6 : (xs.any fun a => thanS a y) = true
      · have HANY := hidQ h6
        have HC := hidQ (contains_func 57 enters_f1 wr.heap.size #[.int .i64 y.f0.f0, .int .i64 y.f0.f1, .int .i64 y.f0.f2, .int .i64 y.f0.f3, .int .i64 y.f0.f4, .int .u64 y.f0.f5, .int .u64 y.f0.f6, .int .u64 y.f0.f7, .int .i64 y.f1, .slice A9 y.f2.length c9] (fun a => thanS a y) (fun x A n c W h => front1 x y A n c A9 y.f2.length c9 wr.heap.size W h) A3 c3 xs (wr.alloc (.cells #[.int .i64 y.f0.f0, .int .i64 y.f0.f1, .int .i64 y.f0.f2, .int .i64 y.f0.f3, .int .i64 y.f0.f4, .int .u64 y.f0.f5, .int .u64 y.f0.f6, .int .u64 y.f0.f7, .int .i64 y.f1, .slice A9 y.f2.length c9] 50)) (Kd.R_reads' (Kd.R_alloc HO3.out _)).2.2 (blk_new _ _))
        rw [h6] at HC
        clear h6
        go_wp2_with (go_at_call 56; (with_reducible refine HC.out.mono ?_); rintro e w2 ⟨rfl, hb⟩; have HB2 := hidQ (below_step (below_alloc HB.out _) hb); have HO4 := hidQ (Kd.R_below (Kd.R_alloc HO3.out _) hb); clear hb)
        go_roundg (l0.length - (i + 1))
        case measure => have := HI.out; omega
        case rel => exact ⟨i + 1, hidQ rfl, by go_num, by omega, hidQ (by rw [HST.out]; unfold FrontPure.fstep; rw [if_pos HANY.out]; exact HO4.out), HB2⟩
      · have HANY := hidQ h6
        have HC := hidQ (contains_func 57 enters_f1 wr.heap.size #[.int .i64 y.f0.f0, .int .i64 y.f0.f1, .int .i64 y.f0.f2, .int .i64 y.f0.f3, .int .i64 y.f0.f4, .int .u64 y.f0.f5, .int .u64 y.f0.f6, .int .u64 y.f0.f7, .int .i64 y.f1, .slice A9 y.f2.length c9] (fun a => thanS a y) (fun x A n c W h => front1 x y A n c A9 y.f2.length c9 wr.heap.size W h) A3 c3 xs (wr.alloc (.cells #[.int .i64 y.f0.f0, .int .i64 y.f0.f1, .int .i64 y.f0.f2, .int .i64 y.f0.f3, .int .i64 y.f0.f4, .int .u64 y.f0.f5, .int .u64 y.f0.f6, .int .u64 y.f0.f7, .int .i64 y.f1, .slice A9 y.f2.length c9] 50)) (Kd.R_reads' (Kd.R_alloc HO3.out _)).2.2 (blk_new _ _))
        rw [Bool.eq_false_iff.mpr h6] at HC
        have HF2 : Hid (Gives 59 wr.heap.size #[.int .i64 y.f0.f0, .int .i64 y.f0.f1, .int .i64 y.f0.f2, .int .i64 y.f0.f3, .int .i64 y.f0.f4, .int .u64 y.f0.f5, .int .u64 y.f0.f6, .int .u64 y.f0.f7, .int .i64 y.f1, .slice A9 y.f2.length c9] (fun a => thanS y a)) := hidQ (fun x A n c W h => front2 x y A n c A9 y.f2.length c9 wr.heap.size W h)
        have HO3' := hidQ (Kd.R_alloc (Kd.R_elderB HO3.out wr.heap.size (Nat.le_refl _)) (.cells #[.int .i64 y.f0.f0, .int .i64 y.f0.f1, .int .i64 y.f0.f2, .int .i64 y.f0.f3, .int .i64 y.f0.f4, .int .u64 y.f0.f5, .int .u64 y.f0.f6, .int .u64 y.f0.f7, .int .i64 y.f1, .slice A9 y.f2.length c9] 50))
        clear h6
        go_wp2_with (first | (go_at_call 56; (with_reducible refine HC.out.mono ?_); rintro e w2 ⟨rfl, hb⟩; have HB2 := hidQ (below_step (below_alloc HB.out _) hb); have HO4 := hidQ (Kd.R_below HO3'.out hb); have HX2 := hidQ (blk_below (blk_new wr (.cells #[.int .i64 y.f0.f0, .int .i64 y.f0.f1, .int .i64 y.f0.f2, .int .i64 y.f0.f3, .int .i64 y.f0.f4, .int .u64 y.f0.f5, .int .u64 y.f0.f6, .int .u64 y.f0.f7, .int .i64 y.f1, .slice A9 y.f2.length c9] 50)) hb); clear hb) | (go_at_call 58; (with_reducible refine (delete_func 59 enters_f2 wr.heap.size #[.int .i64 y.f0.f0, .int .i64 y.f0.f1, .int .i64 y.f0.f2, .int .i64 y.f0.f3, .int .i64 y.f0.f4, .int .u64 y.f0.f5, .int .u64 y.f0.f6, .int .u64 y.f0.f7, .int .i64 y.f1, .slice A9 y.f2.length c9] (fun a => thanS y a) HF2.out A3 c3 xs _ w.heap.size HB2.out.size (Kd.R_mono HO4.out (fun _ hk => hk.2)) HX2.out).mono ?_); rintro e w3 ⟨v3, rfl, hr, hb, hx⟩; obtain ⟨NW, hNW⟩ : ∃ NW : Nat, NW = w3.heap.size := ⟨_, rfl⟩; have HNW := hidQ hNW; have HL7 := hidQ (Nat.le_trans HB2.out.size hb.size); rw [← hNW] at HL7; clear hNW; have HO5 := hidQ hr; have HB5 := hidQ (HB2.out.trans hb); have HX5 := hidQ hx; have HG5 := hidQ (Kd.C_below HG9.out (HB5.out)); obtain ⟨z0, z1, z2, z3, z4, z5, z6, z7, z8, z9, -⟩ := zqz10 hx; clear hr hb hx HO4 HX2 HB2) | (go_at_call 60; (with_reducible refine (clone_row A9 c9 y.f2 _ HG5.out (by omega)).mono ?_); rintro e w4 ⟨v2, rfl, hr, hb⟩; obtain ⟨A2, c2, rfl⟩ := Kd.R_slice hr; have HN6 := hidQ (blk_lt HX5.out); have HX6 := hidQ (blk_below HX5.out hb); have HS6 := hidQ HB5.out.size; have HB6 := hidQ (below_step HB5.out hb); have HO6 := hidQ (Kd.R_below (Kd.R_bound HO5.out) hb); have HP6 := hidQ (Kd.R_mono (Kd.R_bound hr) (fun k hk => hk.2.1)); rw [← HNW.out] at HP6 HN6 HO6; clear hr hb HO5 HB5 HX5 HG5) | ((with_reducible refine gate_store 32 21 20 rfl ?_); refine zqv 32 (.tmp 21) (.tmp 20) 9 1 #[.int .i64 y.f0.f0, .int .i64 y.f0.f1, .int .i64 y.f0.f2, .int .i64 y.f0.f3, .int .i64 y.f0.f4, .int .u64 y.f0.f5, .int .u64 y.f0.f6, .int .u64 y.f0.f7, .int .i64 y.f1, .slice A2 y.f2.length c2] HX6.out rfl rfl rfl rfl rfl rfl (by rfl) (by kernel_rfl) (by exact Nat.le_of_ble_eq_true rfl) (by rfl) ?_; intro w5 hx5 hbel5 hfar5; have HX7 := hidQ hx5; have HB7 := hidQ (hbel5 _ _ HB6.out (HB.out.size)); have HO7 := hidQ (Kd.R_step HO6.out (fun k hk _ => hfar5 k hk.1)); have HP7 := hidQ (Kd.R_step HP6.out (fun k hk _ => hfar5 k (fun e => by have := HN6.out; omega))); obtain ⟨t0, t1_, t2, t3, t4, t5, t6, t7, t8, t9, -⟩ := zqz10 hx5; clear hx5 hbel5 hfar5 HX6 HB6 HO6 HP6) | ((with_reducible refine gate_builtin (b := .append) (xs := #[.tmp 22, .tmp 24]) rfl ?_); at_builtin; refine Kd.R_append k50 (w0 := w) w.heap.size rfl (.tmp 22) (.tmp 24) 73 50 (.agg #[.int .i64 0, .int .i64 0, .int .i64 0, .int .i64 0, .int .i64 0, .int .u64 0, .int .u64 0, .int .u64 0, .int .i64 0, .slice none 0 0]) 96 rfl Try.underlying73 info_node rfl (by decide) (by omega) v3 (xs.filter fun x => !(thanS y x)) y [.int .i64 y.f0.f0, .int .i64 y.f0.f1, .int .i64 y.f0.f2, .int .i64 y.f0.f3, .int .i64 y.f0.f4, .int .u64 y.f0.f5, .int .u64 y.f0.f6, .int .u64 y.f0.f7, .int .i64 y.f1, .slice A2 y.f2.length c2] (fun _ => True) (fun k => NW ≤ k) rfl rfl ?aP ?aK ?aF ?aO ?aB ?aS ?aL ?_; (case aP => exact k50_mkM _ _ _ y (Kd.R_lower HP7.out HL7.out)); (case aK => exact fun k hk => ⟨trivial, fun e => by have := (HO7.out.1 k e.symm).2.2.1; omega⟩); (case aF => exact fun _ _ => trivial); (case aO => exact Kd.R_mono HO7.out (fun _ _ => trivial)); (case aB => exact HB7.out); (case aS => exact HB7.out.size); (case aL => exact filter_room _ xs (by omega)); intro v4 w6 ho hb hg hat; have HO8 := hidQ ho; have HB8 := hidQ hb; clear ho hb hg hat))
        go_roundg (l0.length - (i + 1))
        case measure => have := HI.out; omega
        case rel => exact ⟨i + 1, hidQ rfl, by go_num, by omega, hidQ (by rw [HST.out]; unfold FrontPure.fstep; rw [if_neg HANY.out]; exact HO8.out), HB8⟩
    · have t1 : decide ((i : Int) < (l0.length : Int)) = false := decide_eq_false (by omega)
      have t1n : decide (i < l0.length) = false := decide_eq_false (by omega)
      go_wp2
      go_ret
      have ho := HO.out
      rw [List.take_of_length_le (by omega)] at ho
      exact ⟨_, rfl, ho, HB.out⟩

/-! ### haulierlaw13_awake: function 25 -/
def haulierlaw13_awake.f  : Option (Bool) := (better_Front.f (([(⟨(⟨0, 0, 0, 0, 0, 0, 0, 0⟩ : S40), 5, ([] : List Int)⟩ : S50), (⟨(⟨0, 0, 0, 0, 0, 0, 0, 0⟩ : S40), 3, ([] : List Int)⟩ : S50)] : List (S50)))).bind fun t251 => (if (t251.length : Int) = 1 then (if 0 < (t251.length : Int) then (if ((rd_T50 t251 0).f1) = 3 then ((better_Than.f 0 0 0 0 0 0 0 0 3 ([] : List Int) 0 0 0 0 0 0 0 0 5 ([] : List Int)).bind fun t255 => (some t255)) else (none)) else (none)) else (none))
set_option maxHeartbeats 16000000 in
set_option maxRecDepth 100000 in
theorem haulierlaw13_awake.calls  (r : Bool) (w : World) (h : haulierlaw13_awake.f  = some r) :
  Calls Try.prog 25 #[] w fun e w' => e = .returned (.bool r) ∧ Below w.heap.size w w' := by
 have hu50 := Try.underlying50
 have HB := zqi (Below.refl w.heap.size w)
 have H : ((better_Front.f (([(⟨(⟨0, 0, 0, 0, 0, 0, 0, 0⟩ : S40), 5, ([] : List Int)⟩ : S50), (⟨(⟨0, 0, 0, 0, 0, 0, 0, 0⟩ : S40), 3, ([] : List Int)⟩ : S50)] : List (S50)))).bind fun t251 => (if (t251.length : Int) = 1 then (if 0 < (t251.length : Int) then (if ((rd_T50 t251 0).f1) = 3 then ((better_Than.f 0 0 0 0 0 0 0 0 3 ([] : List Int) 0 0 0 0 0 0 0 0 5 ([] : List Int)).bind fun t255 => (some t255)) else (none)) else (none)) else (none))) = some r := h
 clear h
 obtain ⟨y248, hy248⟩ : ∃ y_ : List (S50), y_ = (([(⟨(⟨0, 0, 0, 0, 0, 0, 0, 0⟩ : S40), 5, ([] : List Int)⟩ : S50), (⟨(⟨0, 0, 0, 0, 0, 0, 0, 0⟩ : S40), 3, ([] : List Int)⟩ : S50)] : List (S50))) := ⟨_, rfl⟩
 replace H : ((better_Front.f y248).bind fun t251 => (if (t251.length : Int) = 1 then (if 0 < (t251.length : Int) then (if ((rd_T50 t251 0).f1) = 3 then ((better_Than.f 0 0 0 0 0 0 0 0 3 ([] : List Int) 0 0 0 0 0 0 0 0 5 ([] : List Int)).bind fun t255 => (some t255)) else (none)) else (none)) else (none))) = some r := by first | (rw [hy248]; with_reducible exact H) | (have H2_ := (Option.bind_some _ _).symm.trans H; rw [hy248]; with_reducible exact H2_) | (have H2_ := (Option.bind_some _ _).symm.trans H; with_reducible exact H2_) | with_reducible exact H | (rw [hy248]; exact H) | exact H
 have Ny248 := zqi hy248
 clear hy248
 replace H := Option.bind_eq_some_iff.mp H
 obtain ⟨t251, A10, H⟩ := H
 replace H : (if (t251.length : Int) = 1 then (if 0 < (t251.length : Int) then (if ((rd_T50 t251 0).f1) = 3 then ((better_Than.f 0 0 0 0 0 0 0 0 3 ([] : List Int) 0 0 0 0 0 0 0 0 5 ([] : List Int)).bind fun t255 => (some t255)) else (none)) else (none)) else (none)) = some r := H
 have A1 := zqi A10
 clear A10
 by_cases c2 : (t251.length : Int) = 1
 ·
  rw [if_pos c2] at H
  have c2b0 : ((t251.length : Int) == 1) = true := beq_iff_eq.mpr c2
  have c2b1 : ((t251.length : Int) != 1) = false := bne_eq_false_iff_eq.mpr c2
  clear c2
  by_cases c3 : 0 < (t251.length : Int)
  ·
   rw [if_pos c3] at H
   have c3b0 : decide (0 < (t251.length : Int)) = true := decide_eq_true c3
   have c3b1 : decide (0 < t251.length) = true := decide_eq_true (by omega)
   clear c3
   by_cases c4 : ((rd_T50 t251 0).f1) = 3
   ·
    rw [if_pos c4] at H
    have c4b0 : (((rd_T50 t251 0).f1) == 3) = true := beq_iff_eq.mpr c4
    have c4b1 : (((rd_T50 t251 0).f1) != 3) = false := bne_eq_false_iff_eq.mpr c4
    clear c4
    replace H := Option.bind_eq_some_iff.mp H
    obtain ⟨t255, A50, H⟩ := H
    replace H : (some t255) = some r := H
    have A5 := zqi A50
    clear A50
    obtain rfl := Option.some.inj H
    go_enter Try.func25, Try.ntmps25
    go_wp2_with (first | ((with_reducible refine gate_dst (N := 4) rfl ?_); refine Kd.S_lit k50 _ 50 ?hg (N := 4) ?hd (xs := ([(⟨(⟨0, 0, 0, 0, 0, 0, 0, 0⟩ : S40), 5, ([] : List Int)⟩ : S50), (⟨(⟨0, 0, 0, 0, 0, 0, 0, 0⟩ : S40), 3, ([] : List Int)⟩ : S50)] : List (S50))) (inner := [.int .i64 0, .int .i64 0, .int .i64 0, .int .i64 0, .int .i64 0, .int .u64 0, .int .u64 0, .int .u64 0, .int .i64 5, .slice none 0 0, .int .i64 0, .int .i64 0, .int .i64 0, .int .i64 0, .int .i64 0, .int .u64 0, .int .u64 0, .int .u64 0, .int .i64 3, .slice none 0 0]) (ok := fun _ => True) (okp := fun _ => True) ?hr ?hp (fun _ hk => hk) trivial (Below.refl _ _) (Nat.le_refl _) (by simp) ?_; (case hd => rfl); (case hg => rfl); (case hr => first | (go_simp; done) | (go_simp; rfl)); (case hp => exact (Reps.c10 (show Kd.M k50 _ _ _ (⟨(⟨0, 0, 0, 0, 0, 0, 0, 0⟩ : S40), 5, ([] : List Int)⟩ : S50) [.int .i64 0, .int .i64 0, .int .i64 0, .int .i64 0, .int .i64 0, .int .u64 0, .int .u64 0, .int .u64 0, .int .i64 5, .slice none 0 0] from (k50_mkM _ _ _ (⟨(⟨0, 0, 0, 0, 0, 0, 0, 0⟩ : S40), 5, ([] : List Int)⟩ : S50) (Kd.R_nil _ _ _ _ _))) (Reps.c10 (show Kd.M k50 _ _ _ (⟨(⟨0, 0, 0, 0, 0, 0, 0, 0⟩ : S40), 3, ([] : List Int)⟩ : S50) [.int .i64 0, .int .i64 0, .int .i64 0, .int .i64 0, .int .i64 0, .int .u64 0, .int .u64 0, .int .u64 0, .int .i64 3, .slice none 0 0] from (k50_mkM _ _ _ (⟨(⟨0, 0, 0, 0, 0, 0, 0, 0⟩ : S40), 3, ([] : List Int)⟩ : S50) (Kd.R_nil _ _ _ _ _))) (Reps.none _ _)))); intro v249 w6 ho7 hb hg_ hnew_; clear hg_ hnew_; (first | rw [← Ny248.out] at ho7 | (simp only [Int.reduceToNat] at ho7; rw [← Ny248.out] at ho7)); have n0_ := zqi (Kd.S_lower ho7 (below_size (zqn HB.out))); have n1_ := zqi (below_step (zqn HB.out) hb); clear HB; have HO250 := n0_; have HB := n1_; clear n0_ n1_; clear hb ho7; obtain ⟨Ao8, co8, eo8⟩ := Kd.S_slice HO250.out; subst eo8) | ((with_reducible refine gate_callee (f := 42) rfl ?_); refine goesL_ (some 5) rfl rfl Try.func42 (by kernel_rfl) rfl #[.slice Ao8 y248.length co8] rfl (by (try simp only [List.map_toArray, List.map_cons, List.map_nil]); first | done | rfl | (simp only [List.length_drop, List.length_take]; rfl)) ?_; (with_reducible refine (better_Front.calls _ _ y248 t251 _ ?side1 ?side2 A1.out).mono ?_); (case side1 => repeat (first | exact (Kd.S_reads' HO250.out).2.2 | (with_reducible refine Kd.C_alloc ?_ _) | (with_reducible refine Kd.C_drewN ?_ _) | (with_reducible refine Kd.C_drew ?_))); (case side2 => exact (Kd.S_reads' HO250.out).2.1); rintro e w9 ⟨v252, rfl, ho0, hb⟩; refine ⟨_, rfl, ?_⟩; have n0_ := zqi (Kd.S_elder' (by (with_reducible repeat (first | apply Kd.S_alloc | apply Kd.S_drewN | apply Kd.S_drew)); exact HO250.out) (Kd.R_base ho0) hb); have n1_ := zqi (Kd.R_lower (Kd.R_new' ho0 (Kd.S_lt (by (with_reducible repeat (first | apply Kd.S_alloc | apply Kd.S_drewN | apply Kd.S_drew)); exact HO250.out))) (below_size (zqn HB.out))); have n2_ := zqi (below_step (zqn HB.out) hb); clear HO250; clear HB; have HO250 := n0_; have HO253 := n1_; have HB := n2_; clear n0_ n1_ n2_; (try clear hb); (try clear hb2); (try clear hk); (try clear hi); (try clear ho0); obtain ⟨Ao10, co10, eo10⟩ := Kd.R_slice HO253.out; subst eo10; have p254 : 0 ≤ (0 : Int) := (by omega); have q254 : 0 < (t251.length : Int) := of_decide_eq_true (by first | (with_reducible assumption) | assumption); obtain ⟨ad254, A254_9, c254_9, e254, hx254_0, hx254_1, hx254_2, hx254_3, hx254_4, hx254_5, hx254_6, hx254_7, hx254_8, hx254_9, hl254_9, hi254_9⟩ := at_T50 (Kd.R_reads' HO253.out).2.2 0 p254 q254; cases e254; obtain ⟨ce254, hce254, hMe254, hcc254⟩ := Kd.R_get HO253.out z50 0 p254 (by first | exact q254 | exact of_decide_eq_true (by first | (with_reducible assumption) | assumption) | (have e_ := (Kd.R_reads' HO253.out).1; omega)); obtain ⟨ve254_9, rfl, ge254_9⟩ := k50_openM hMe254; have hv254_9 := hcc254 9 _ rfl; rw [add_field _ _ 9 (by omega)] at hv254_9; replace hv254_9 := Option.some.inj (hv254_9.symm.trans hx254_9); rw [hv254_9] at ge254_9; have HL254_9 := zqi (show Kd.R (Kd.int .i64) 3 _ _ _ _ ((rd_T50 t251 0).f2) from ge254_9); clear hv254_9 ge254_9; clear hcc254 hce254; have qi254 : (0 < t251.length) = True := eq_true (by omega); (try rw [show ((0 : Int)).toNat = 0 from rfl] at hx254_0); (try rw [show 0 * 10 = 0 from rfl] at hx254_0); (try rw [Addr.add_zero'] at hx254_0); (try rw [show ((0 : Int)).toNat = 0 from rfl] at hx254_1); (try rw [show 0 * 10 = 0 from rfl] at hx254_1); (try rw [Addr.add_zero'] at hx254_1); (try rw [show ((0 : Int)).toNat = 0 from rfl] at hx254_2); (try rw [show 0 * 10 = 0 from rfl] at hx254_2); (try rw [Addr.add_zero'] at hx254_2); (try rw [show ((0 : Int)).toNat = 0 from rfl] at hx254_3); (try rw [show 0 * 10 = 0 from rfl] at hx254_3); (try rw [Addr.add_zero'] at hx254_3); (try rw [show ((0 : Int)).toNat = 0 from rfl] at hx254_4); (try rw [show 0 * 10 = 0 from rfl] at hx254_4); (try rw [Addr.add_zero'] at hx254_4); (try rw [show ((0 : Int)).toNat = 0 from rfl] at hx254_5); (try rw [show 0 * 10 = 0 from rfl] at hx254_5); (try rw [Addr.add_zero'] at hx254_5); (try rw [show ((0 : Int)).toNat = 0 from rfl] at hx254_6); (try rw [show 0 * 10 = 0 from rfl] at hx254_6); (try rw [Addr.add_zero'] at hx254_6); (try rw [show ((0 : Int)).toNat = 0 from rfl] at hx254_7); (try rw [show 0 * 10 = 0 from rfl] at hx254_7); (try rw [Addr.add_zero'] at hx254_7); (try rw [show ((0 : Int)).toNat = 0 from rfl] at hx254_8); (try rw [show 0 * 10 = 0 from rfl] at hx254_8); (try rw [Addr.add_zero'] at hx254_8); (try rw [show ((0 : Int)).toNat = 0 from rfl] at hx254_9); (try rw [show 0 * 10 = 0 from rfl] at hx254_9); (try rw [Addr.add_zero'] at hx254_9); have HR254_9 := zqi hi254_9; have HC254_9 := zqi hl254_9; clear hi254_9 hl254_9; replace p254 := eq_true p254; replace q254 := eq_true q254) | (go_at_call 26; (refine (better_Than.calls 0 0 0 0 0 0 0 0 3 _ _ ([] : List Int) 0 0 0 0 0 0 0 0 5 _ _ ([] : List Int) t255 _ ?side1 ?side2 ?side3 ?side4 A5.out).mono ?_); (case side1 => exact Kd.C_nil _ _); (case side2 => exact Nat.le_refl _); (case side3 => exact Kd.C_nil _ _); (case side4 => exact Nat.le_refl _); rintro e w11 ⟨rfl, hb⟩; have n0_ := zqi (Kd.S_below (by (with_reducible repeat (first | apply Kd.S_alloc | apply Kd.S_drewN | apply Kd.S_drew)); exact HO250.out) hb); have n1_ := zqi (Kd.R_below (by (with_reducible repeat (first | apply Kd.R_alloc | apply Kd.R_drewN | apply Kd.R_drew)); exact HO253.out) hb); have n2_ := zqi (Kd.R_below (by (with_reducible repeat (first | apply Kd.R_alloc | apply Kd.R_drewN | apply Kd.R_drew)); exact HL254_9.out) hb); have n3_ := zqi (Kd.C_below (by repeat (first | (with_reducible exact HR254_9.out) | (with_reducible refine Kd.C_alloc ?_ _) | (with_reducible refine Kd.C_drewN ?_ _) | (with_reducible refine Kd.C_drew ?_) | exact HR254_9.out)) hb); have n4_ := zqi (below_step (zqn HB.out) hb); clear HO250; clear HO253; clear HL254_9; clear HR254_9; clear HB; have HO250 := n0_; have HO253 := n1_; have HL254_9 := n2_; have HR254_9 := n3_; have HB := n4_; clear n0_ n1_ n2_ n3_ n4_; (try clear hb); (try clear hb2); (try clear hk); (try clear hi)))
    go_ret
    exact ⟨by first | rfl | (simp [errW_none, errW_some] <;> rfl) | (simp [*, errW_none, errW_some] <;> rfl), by repeat (first | (with_reducible first | exact HB.out | apply zqg | apply zqf | apply zqh) | exact HB.out)⟩
   ·
    rw [if_neg c4] at H
    exact absurd H (by simp)
  ·
   rw [if_neg c3] at H
   exact absurd H (by simp)
 ·
  rw [if_neg c2] at H
  exact absurd H (by simp)

end Go.Proofs.Ytjiammiihamkiaa.PC
