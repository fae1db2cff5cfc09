-- Printed for this claim by wip/tools/xprint.py over the kit's print; the contracts marked BY HAND are this session's own.
import Derived.Test.YtdkhajgfifaibaaDoorPAx0
namespace Go.Proofs.YtdkhajgfifaibaaDoor.PA
open Go.RowKit Go.Proofs.YtdkhajgfifaibaaDoorW.PrintWords Go.Proofs.YtdkhajgfifaibaaDoorW.PrintLast Go.Proofs.YtdkhajgfifaibaaDoorW.PrintMore
attribute [local go_sem] max2_int min2_int max_two min_two max_three min_three max_four min_four   -- for this text's walks alone
set_option linter.unusedVariables false
set_option linter.unusedSimpArgs false

/-! ### haulierlaw05_Small: function 17 -/
def haulierlaw05_Small.f  : Option (ByteArray) := some (⟨#[49, 32, 49, 32, 53, 10, 48, 32, 48, 32, 48, 32, 48, 32, 49, 48, 48, 32, 48, 10, 51, 32, 48, 32, 50, 32, 48, 32, 53, 48, 32, 49, 10, 48, 32, 52, 32, 45, 50, 32, 48, 32, 57, 48, 32, 49, 10]⟩ : ByteArray)
set_option maxHeartbeats 8000000 in
set_option maxRecDepth 100000 in
theorem haulierlaw05_Small.calls  (r : ByteArray) (w : World) (h : haulierlaw05_Small.f  = some r) :
    Calls Tryd.prog 17 #[] w fun e w' => e = .returned (.string r) ∧ Drawn0 w w' := by
  have H : (some (⟨#[49, 32, 49, 32, 53, 10, 48, 32, 48, 32, 48, 32, 48, 32, 49, 48, 48, 32, 48, 10, 51, 32, 48, 32, 50, 32, 48, 32, 53, 48, 32, 49, 10, 48, 32, 52, 32, 45, 50, 32, 48, 32, 57, 48, 32, 49, 10]⟩ : ByteArray)) = some r := h
  clear h
  obtain rfl := Option.some.inj H
  go_enter Tryd.func17, Tryd.ntmps17
  go_wp2
  go_ret
  exact ⟨by first | rfl | (simp; done) | (simp [*]; done), by repeat (first | exact Drawn0.refl _ | apply Drawn0.step)⟩

/-! ### sched_begin: function 56, BY HAND -/
theorem want_ {P : Program} {ops : Array Oper} {oi : Oper} {a : Act} {w : World} {K : Act → World → Prop} {Q : Exit → Act → World → Prop} {N : Option Tmp} (hw : Region.wanted oi (yielded ops a.tmps) = true) (h : Oper.wp P oi a w K Q) : if Region.wanted oi (yielded ops a.tmps) = true then Oper.wp P oi a w K Q else K (a.put N undef) w := by
  rw [if_pos hw]
  exact h
theorem hidK {p : Prop} (h : p) : Hid p := h
/-- A stop's six cells. -/
def Stop6 (w : World) (ad : Addr) (stops : List S58) (i : Nat) (h : i < stops.length) : Prop := w.cell? (ad.add (i * 6)) = some (.int .i64 stops[i].f0) ∧ w.cell? ⟨(ad.add (i * 6)).block, (ad.add (i * 6)).off + 1, none⟩ = some (.int .i64 stops[i].f1) ∧ w.cell? ⟨(ad.add (i * 6)).block, (ad.add (i * 6)).off + 2, none⟩ = some (.int .i64 stops[i].f2) ∧ w.cell? ⟨(ad.add (i * 6)).block, (ad.add (i * 6)).off + 3, none⟩ = some (.int .i64 stops[i].f3) ∧ w.cell? ⟨(ad.add (i * 6)).block, (ad.add (i * 6)).off + 4, none⟩ = some (.int .i64 stops[i].f4) ∧ w.cell? ⟨(ad.add (i * 6)).block, (ad.add (i * 6)).off + 5, none⟩ = some (.int .i64 stops[i].f5)
theorem Stop6.below {w w' : World} {ad : Addr} {stops : List S58} {i : Nat} {h : i < stops.length} (hs : Stop6 w ad stops i h) (hb : Below w.heap.size w w') : Stop6 w' ad stops i h :=
  ⟨pw_cell_below hb hs.1, pw_cell_below hb hs.2.1, pw_cell_below hb hs.2.2.1, pw_cell_below hb hs.2.2.2.1, pw_cell_below hb hs.2.2.2.2.1, pw_cell_below hb hs.2.2.2.2.2⟩
theorem stop6 {w : World} {A : Option Addr} {stops : List S58} (h : Kd.C k58 w A stops.length stops) (i : Nat) (hi : i < stops.length) : ∃ ad, A = some ad ∧ Stop6 w ad stops i hi := by
  obtain ⟨ad, e, h0, h1, h2, h3, h4, h5⟩ := at_T58 h (i : Int) (by omega) (by omega)
  have hx : rd_T58 stops (i : Int) = stops[i] := by unfold rd_T58; rw [Int.toNat_natCast]; simp [List.getD, List.getElem?_eq_getElem hi]
  rw [hx, Int.toNat_natCast] at h0 h1 h2 h3 h4 h5
  exact ⟨ad, e, h0, h1, h2, h3, h4, h5⟩
theorem add_z (a : Addr) : a.add (0 * 6) = a := by
  cases a; rfl
theorem begin_r (p cs rm : Int) (ad : Addr) (sc : Nat) (stops : List S58) (w : World) (h0 : 0 < stops.length) (hr : Kd.C k58 w (some ad) stops.length stops) :
    Calls Tryd.prog 56 #[.agg #[.int .i64 p, .int .i64 cs, .int .i64 rm, .slice (some ad) stops.length sc]] w fun e w' => ∃ g, e = .returned (.pointer (some ⟨g, 0, none⟩)) ∧ w.heap.size ≤ g ∧ w'.heap[g]? = some (.cells #[.int .i64 p, .int .i64 cs, .int .i64 rm, .slice (some ad) stops.length sc, .int .i64 0, .int .i64 stops[0].f3, .int .i64 0, .int .i64 0, .int .u64 0, .int .u64 0, (.slice none 0 0), (.slice none 0 0)] 84 (0, 0)) ∧ Below w.heap.size w w' := by
  have HI := hidK (show Stop6 w ad stops 0 h0 by obtain ⟨ad2, e, h⟩ := stop6 hr 0 h0; obtain rfl := Option.some.inj e; exact h)
  have HI3 := hidK (show (w.alloc (.cells #[.int .i64 p, .int .i64 cs, .int .i64 rm, .slice (some ad) stops.length sc] 39)).cell? ⟨ad.block, ad.off + 3, none⟩ = some (.int .i64 stops[0].f3) by have h := HI.out.2.2.2.1; rw [add_z ad] at h; exact (World.cell?_alloc_lt _ _ _ (World.block_lt_of_cell? _ _ h)).trans h)
  have HX := hidK (blk_new w (.cells #[.int .i64 p, .int .i64 cs, .int .i64 rm, .slice (some ad) stops.length sc] 39))
  have hmax := Kd.C_max hr
  clear hr
  have q4 : (0 : Int) < (stops.length : Int) := by omega
  go_enter Tryd.func56, Tryd.ntmps56
  go_wp2
  refine start_ (n := 9) (S := fun w' => w'.cell? ⟨w.heap.size, 0, none⟩ = some (.int .i64 p) ∧ w'.cell? ⟨w.heap.size, 1, none⟩ = some (.int .i64 cs) ∧ w'.cell? ⟨w.heap.size, 2, none⟩ = some (.int .i64 rm) ∧ w'.cell? ⟨w.heap.size, 3, none⟩ = some (.slice (some ad) stops.length sc) ∧ w'.cell? ⟨ad.block, ad.off + 3, none⟩ = some (.int .i64 stops[0].f3)) (ds := []) (zqB 9 0) (by kernel_rfl) rfl rfl (⟨blk_cell HX.out 0, blk_cell HX.out 1, blk_cell HX.out 2, blk_cell HX.out 3, HI3.out⟩) (fun hHeld => ?_)
  refine zqt 0 (some 3) (zqB 9 1) (by kernel_rfl) hHeld (h := ?_)
  refine zqp 1 (some 4) (zqB 9 3) (by kernel_rfl) (h := ?_)
  refine zqt 2 (some 5) (zqB 9 7) (by kernel_rfl) hHeld (h := ?_)
  refine zqp 3 (some 6) (zqB 9 15) (by kernel_rfl) (h := ?_)
  refine zqp 4 (some 7) (zqB 9 31) (by kernel_rfl) (h := ?_)
  refine zqt 5 (some 8) (zqB 9 63) (by kernel_rfl) hHeld (h := ?_)
  refine zqp 6 (some 9) (zqB 9 127) (by kernel_rfl) (h := ?_)
  refine one_ (i := 7) (N := some 10) (zqB 9 255) rfl rfl (by kernel_rfl) (by decide) (fun K hK => ?_)
  refine value_ (w1 := ?_) (v := ?_) (by rfl) rfl ?_ ?_
  rotate_left 2
  · go_simp
    constructor
    · rfl
    · rfl
  refine hK.out _ _ ⟨(World.cell?_alloc_lt _ _ _ (World.block_lt_of_cell? _ _ hHeld.1)).trans hHeld.1, (World.cell?_alloc_lt _ _ _ (World.block_lt_of_cell? _ _ hHeld.2.1)).trans hHeld.2.1, (World.cell?_alloc_lt _ _ _ (World.block_lt_of_cell? _ _ hHeld.2.2.1)).trans hHeld.2.2.1, (World.cell?_alloc_lt _ _ _ (World.block_lt_of_cell? _ _ hHeld.2.2.2.1)).trans hHeld.2.2.2.1, (World.cell?_alloc_lt _ _ _ (World.block_lt_of_cell? _ _ hHeld.2.2.2.2)).trans hHeld.2.2.2.2⟩ (fun hHeld => ?_)
  clear hK K
  refine norm_ (a' := ?_) ?_ ?_
  rotate_left
  · show Act.put _ _ _ = _
    simp only [Act.put, List.setIfInBounds_toArray, List.set_cons_zero, List.set_cons_succ, i64_w, i32_w]
    rfl
  refine zqp 8 (some 2) (zqB 9 511) (by kernel_rfl) (h := ?_)
  refine done_ (by kernel_rfl) ?_
  go_wp2
  go_ret
  refine ⟨w.heap.size + 1, by first | rfl | simp, by omega, ?_, ?_⟩
  · have e := blk_new (w.alloc (.cells #[.int .i64 p, .int .i64 cs, .int .i64 rm, .slice (some ad) stops.length sc] 39)) (.cells #[.int .i64 p, .int .i64 cs, .int .i64 rm, .slice (some ad) stops.length sc, .int .i64 0, .int .i64 stops[0].f3, .int .i64 0, .int .i64 0, .int .u64 0, .int .u64 0, (.slice none 0 0), (.slice none 0 0)] 84 (0, 0))
    rw [World.size_alloc] at e
    exact e
  · exact below_alloc (below_drew1 (below_alloc (Below.refl _ _) _)) _

/-! ### set_bit: function 72 -/
def set_bit.f (a0 : Int) : Option (Int) := if a0 < 0 then (some 0) else (if a0 > 63 then (some 0) else (if 0 ≤ a0 then (some (shl .u64 1 a0)) else (none)))
set_option maxHeartbeats 8000000 in
set_option maxRecDepth 100000 in
theorem set_bit.calls (a0 : Int) (r : Int) (w : World) (h : set_bit.f a0 = some r) :
    Calls Tryd.prog 72 #[.int .i64 a0] w fun e w' => e = .returned (.int .u64 r) ∧ Drawn0 w w' := by
  have H : (if a0 < 0 then (some 0) else (if a0 > 63 then (some 0) else (if 0 ≤ a0 then (some (shl .u64 1 a0)) else (none)))) = some r := h
  clear h
  by_cases c2 : a0 < 0
  · rw [if_pos c2] at H
    have c2b0 : decide (a0 < 0) = true := decide_eq_true c2
    clear c2
    obtain rfl := Option.some.inj H
    go_enter Tryd.func72, Tryd.ntmps72
    go_wp2
    go_ret
    exact ⟨by first | rfl | (simp; done) | (simp [*]; done), by repeat (first | exact Drawn0.refl _ | apply Drawn0.step)⟩
  · rw [if_neg c2] at H
    have c2b0 : decide (a0 < 0) = false := decide_eq_false c2
    clear c2
    by_cases c3 : a0 > 63
    · rw [if_pos c3] at H
      have c3b0 : decide (63 < a0) = true := decide_eq_true c3
      clear c3
      obtain rfl := Option.some.inj H
      go_enter Tryd.func72, Tryd.ntmps72
      go_wp2
      go_ret
      exact ⟨by first | rfl | (simp; done) | (simp [*]; done), by repeat (first | exact Drawn0.refl _ | apply Drawn0.step)⟩
    · rw [if_neg c3] at H
      have c3b0 : decide (63 < a0) = false := decide_eq_false c3
      clear c3
      by_cases c4 : 0 ≤ a0
      · rw [if_pos c4] at H
        have c4b0 := eq_true c4
        have c4b1 : decide (0 ≤ a0) = true := decide_eq_true c4
        clear c4
        obtain ⟨ji5, hji5⟩ : ∃ j_ : Int, (shl .u64 1 a0) = j_ := ⟨_, rfl⟩
        replace H : (some ji5) = some r := by first | (rw [hji5] at H; exact H) | (simp only [hji5] at H ⊢; exact H)
        have hji5_ : (IntKind.u64.wrap (1 * 2 ^ min a0.toNat 64)) = ji5 := hji5
        have hji5z : a0 ≤ 64 → (IntKind.u64.wrap (1 * 2 ^ a0.toNat)) = ji5 := shl_small hji5
        have hji5u : (IntKind.u64.wrap (2 ^ min a0.toNat 64)) = ji5 := by have h_ := hji5_; rw [Int.one_mul] at h_; exact h_
        have hji5v : a0 ≤ 64 → (IntKind.u64.wrap (2 ^ a0.toNat)) = ji5 := fun hle_ => by have h_ := hji5z hle_; rw [Int.one_mul] at h_; exact h_
        obtain rfl := Option.some.inj H
        go_enter Tryd.func72, Tryd.ntmps72
        go_wp2
        go_ret
        exact ⟨by first | rfl | (simp; done) | (simp only [← hji5] <;> (first | rfl | simp)) | (simp [*]; done), by repeat (first | exact Drawn0.refl _ | apply Drawn0.step)⟩
      · rw [if_neg c4] at H
        exact absurd H (by simp)

/-! ### set_Has: function 70 -/
def set_Has.f (a0 : Int) (a1 : Int) : Option (Bool) := (set_bit.f a1).bind fun t192 => (some ((Go.bits .and .u64 a0 t192) != 0))
set_option maxHeartbeats 8000000 in
set_option maxRecDepth 100000 in
theorem set_Has.calls (a0 : Int) (a1 : Int) (r : Bool) (w : World) (h : set_Has.f a0 a1 = some r) :
    Calls Tryd.prog 70 #[.int .u64 a0, .int .i64 a1] w fun e w' => e = .returned (.bool r) ∧ Drawn0 w w' := by
  have H : ((set_bit.f a1).bind fun t192 => (some ((Go.bits .and .u64 a0 t192) != 0))) = some r := h
  clear h
  replace H := Option.bind_eq_some_iff.mp H
  obtain ⟨t192, A30, H⟩ := H
  replace H : (some ((Go.bits .and .u64 a0 t192) != 0)) = some r := H
  have A3 := Aside0.mk A30
  clear A30
  obtain rfl := Option.some.inj H
  go_enter Tryd.func70, Tryd.ntmps70
  go_wp2_with (first | ((with_reducible refine gate_callee (f := 72) rfl ?_); refine goesL_ (some 7) rfl rfl Tryd.func72 (by kernel_rfl) rfl #[.int .i64 a1] rfl (by (try simp only [List.map_toArray, List.map_cons, List.map_nil]); first | done | rfl | (simp only [List.length_drop, List.length_take]; rfl)) ?_; (with_reducible refine (set_bit.calls a1 t192 _ A3.out).mono ?_); rintro e w' ⟨rfl, ⟨nd, rfl⟩⟩; refine ⟨_, rfl, ?_⟩))
  go_ret
  exact ⟨by first | rfl | (simp; done) | (simp [*]; done), by repeat (first | exact Drawn0.refl _ | apply Drawn0.step)⟩

/-! ### sched_car_visits: function 61, BY HAND -/
/-- What is wrong with a stop that is one, but for its time. -/
def visE (p rm : Int) (load dem : Int) (i : Int) (b1 b2 : Bool) : Int := if b1 = true then 5 else if p < i ∧ b2 = false then 8 else if rm < wrap64 (load + dem) then 6 else 0
set_option maxHeartbeats 8000000 in
set_option maxRecDepth 100000 in
theorem visits_r (g : Nat) (p cs rm : Int) (ad : Addr) (sc : Nat) (stops : List S58) (i : Nat) (at_ now far load seen on : Int) (vt vl : Value) (b1 b2 : Bool) (w : World) (hi : i < stops.length) (h1 : 1 ≤ i) (h2 : (i : Int) ≤ 2 * p) (hp : p ≤ 1000000)
    (hg : w.heap[g]? = some (.cells #[.int .i64 p, .int .i64 cs, .int .i64 rm, .slice (some ad) stops.length sc, .int .i64 at_, .int .i64 now, .int .i64 far, .int .i64 load, .int .u64 seen, .int .u64 on, vt, vl] 84 (0, 0))) (hr : Kd.C k58 w (some ad) stops.length stops) (hb1 : set_Has.f seen (i : Int) = some b1) (hb2 : set_Has.f seen ((i : Int) - p) = some b2) :
    Calls Tryd.prog 61 #[.pointer (some ⟨g, 0, none⟩), .int .i64 (i : Int)] w fun e w' => e = .returned (.int .i64 (visE p rm load stops[i].f2 i b1 b2)) ∧ ∃ n, w' = w.drewN n := by
  have hmax := Kd.C_max hr
  have HG := hidK hg
  have HI := hidK (show Stop6 w ad stops i hi by obtain ⟨ad2, e, h⟩ := stop6 hr i hi; obtain rfl := Option.some.inj e; exact h)
  have H1 := hidK hb1
  have H2 := hidK hb2
  have c0 := blk_cell hg 0
  have c8 := blk_cell hg 8
  clear hg hr hb1 hb2
  have q3 : (0 : Int) ≤ (i : Int) := by omega
  have q4 : (i : Int) < (stops.length : Int) := by omega
  have z1 : ¬ (i : Int) < 1 := by omega
  have z2 : ¬ 2 * p < (i : Int) := by omega
  have hp0 : 0 ≤ p := by omega
  cases b1 with
  | true =>
    go_enter Tryd.func61, Tryd.ntmps61
    go_wp2_with (go_at_call 70; (with_reducible refine (set_Has.calls seen (i : Int) true _ H1.out).mono ?_); rintro e_ w_ ⟨rfl, ⟨n1_, rfl⟩⟩)
    go_ret
    exact ⟨rfl, _, rfl⟩
  | false =>
    by_cases hip : p < (i : Int)
    · cases b2 with
      | false =>
        go_enter Tryd.func61, Tryd.ntmps61
        go_wp2_with (first | (go_at_call 70; (with_reducible refine (set_Has.calls seen (i : Int) false _ H1.out).mono ?_); rintro e_ w_ ⟨rfl, ⟨n1_, rfl⟩⟩) | (go_at_call 70; (with_reducible refine (set_Has.calls seen ((i : Int) - p) false _ H2.out).mono ?_); rintro e_ w_ ⟨rfl, ⟨n2_, rfl⟩⟩))
        go_ret
        exact ⟨by simp [visE, hip], n1_ + n2_, by first | rfl | (rw [World.drewN_drewN])⟩
      | true =>
        go_enter Tryd.func61, Tryd.ntmps61
        go_wp2_with (first | (go_at_call 70; (with_reducible refine (set_Has.calls seen (i : Int) false _ H1.out).mono ?_); rintro e_ w_ ⟨rfl, ⟨n1_, rfl⟩⟩) | (go_at_call 70; (with_reducible refine (set_Has.calls seen ((i : Int) - p) true _ H2.out).mono ?_); rintro e_ w_ ⟨rfl, ⟨n2_, rfl⟩⟩))
        refine start_ (n := 21) (S := fun w' => w'.cell? ⟨g, 2, none⟩ = some (.int .i64 rm) ∧ w'.cell? ⟨g, 3, none⟩ = some (.slice (some ad) stops.length sc) ∧ w'.cell? ⟨g, 7, none⟩ = some (.int .i64 load) ∧ w'.cell? ⟨(ad.add (i * 6)).block, (ad.add (i * 6)).off + 2, none⟩ = some (.int .i64 stops[i].f2)) (ds := []) (zqB 21 0) (by kernel_rfl) rfl rfl (⟨blk_cell HG.out 2, blk_cell HG.out 3, blk_cell HG.out 7, HI.out.2.2.1⟩) (fun hHeld => ?_)
        refine zqp 0 (some 43) (zqB 21 1) (by kernel_rfl) (h := ?_)
        refine zqp 1 (some 44) (zqB 21 3) (by kernel_rfl) (h := ?_)
        refine zqp 2 (some 45) (zqB 21 7) (by kernel_rfl) (h := ?_)
        refine zqt 3 (some 46) (zqB 21 15) (by kernel_rfl) hHeld (h := ?_)
        refine zqp 4 (some 47) (zqB 21 31) (by kernel_rfl) (h := ?_)
        refine zqp 5 (some 48) (zqB 21 63) (by kernel_rfl) (h := ?_)
        refine zqp 6 (some 49) (zqB 21 127) (by kernel_rfl) (h := ?_)
        refine zqp 7 (some 50) (zqB 21 255) (by kernel_rfl) (h := ?_)
        refine zqt 8 (some 51) (zqB 21 511) (by kernel_rfl) hHeld (h := ?_)
        refine zqp 9 (some 52) (zqB 21 1023) (by kernel_rfl) (h := ?_)
        refine zqp 10 (some 53) (zqB 21 2047) (by kernel_rfl) (h := ?_)
        refine zqp 11 (some 54) (zqB 21 4095) (by kernel_rfl) (h := ?_)
        refine zqt 12 (some 55) (zqB 21 8191) (by kernel_rfl) hHeld (h := ?_)
        refine zqp 13 (some 56) (zqB 21 16383) (by kernel_rfl) (h := ?_)
        refine zqp 14 (some 57) (zqB 21 32767) (by kernel_rfl) (h := ?_)
        refine zqp 15 (some 58) (zqB 21 65535) (by kernel_rfl) (h := ?_)
        refine zqp 16 (some 59) (zqB 21 131071) (by kernel_rfl) (h := ?_)
        refine zqp 17 (some 60) (zqB 21 262143) (by kernel_rfl) (h := ?_)
        refine zqt 18 (some 61) (zqB 21 524287) (by kernel_rfl) hHeld (h := ?_)
        refine zqp 19 (some 62) (zqB 21 1048575) (by kernel_rfl) (h := ?_)
        refine zqp 20 (some 42) (zqB 21 2097151) (by kernel_rfl) (h := ?_)
        refine done_ (by kernel_rfl) ?_
        by_cases hfu : rm < wrap64 (load + stops[i].f2)
        · have dfu : decide (rm < wrap64 (load + stops[i].f2)) = true := decide_eq_true hfu
          go_wp2
          go_ret
          exact ⟨by simp [visE, *], n1_ + n2_ + 1, by first | rfl | (rw [World.drewN_drewN]; rfl)⟩
        · have dfu : decide (rm < wrap64 (load + stops[i].f2)) = false := decide_eq_false hfu
          go_wp2
          go_ret
          exact ⟨by simp [visE, *], n1_ + n2_ + 1, by first | rfl | (rw [World.drewN_drewN]; rfl)⟩
    · have hv : visE p rm load stops[i].f2 i false b2 = if rm < wrap64 (load + stops[i].f2) then 6 else 0 := by unfold visE; rw [if_neg Bool.false_ne_true, if_neg (fun h => hip h.1)]
      have HV := hidK hv
      clear hv
      go_enter Tryd.func61, Tryd.ntmps61
      go_wp2_with (go_at_call 70; (with_reducible refine (set_Has.calls seen (i : Int) false _ H1.out).mono ?_); rintro e_ w_ ⟨rfl, ⟨n1_, rfl⟩⟩)
      refine start_ (n := 21) (S := fun w' => w'.cell? ⟨g, 2, none⟩ = some (.int .i64 rm) ∧ w'.cell? ⟨g, 3, none⟩ = some (.slice (some ad) stops.length sc) ∧ w'.cell? ⟨g, 7, none⟩ = some (.int .i64 load) ∧ w'.cell? ⟨(ad.add (i * 6)).block, (ad.add (i * 6)).off + 2, none⟩ = some (.int .i64 stops[i].f2)) (ds := []) (zqB 21 0) (by kernel_rfl) rfl rfl (⟨blk_cell HG.out 2, blk_cell HG.out 3, blk_cell HG.out 7, HI.out.2.2.1⟩) (fun hHeld => ?_)
      refine zqp 0 (some 43) (zqB 21 1) (by kernel_rfl) (h := ?_)
      refine zqp 1 (some 44) (zqB 21 3) (by kernel_rfl) (h := ?_)
      refine zqp 2 (some 45) (zqB 21 7) (by kernel_rfl) (h := ?_)
      refine zqt 3 (some 46) (zqB 21 15) (by kernel_rfl) hHeld (h := ?_)
      refine zqp 4 (some 47) (zqB 21 31) (by kernel_rfl) (h := ?_)
      refine zqp 5 (some 48) (zqB 21 63) (by kernel_rfl) (h := ?_)
      refine zqp 6 (some 49) (zqB 21 127) (by kernel_rfl) (h := ?_)
      refine zqp 7 (some 50) (zqB 21 255) (by kernel_rfl) (h := ?_)
      refine zqt 8 (some 51) (zqB 21 511) (by kernel_rfl) hHeld (h := ?_)
      refine zqp 9 (some 52) (zqB 21 1023) (by kernel_rfl) (h := ?_)
      refine zqp 10 (some 53) (zqB 21 2047) (by kernel_rfl) (h := ?_)
      refine zqp 11 (some 54) (zqB 21 4095) (by kernel_rfl) (h := ?_)
      refine zqt 12 (some 55) (zqB 21 8191) (by kernel_rfl) hHeld (h := ?_)
      refine zqp 13 (some 56) (zqB 21 16383) (by kernel_rfl) (h := ?_)
      refine zqp 14 (some 57) (zqB 21 32767) (by kernel_rfl) (h := ?_)
      refine zqp 15 (some 58) (zqB 21 65535) (by kernel_rfl) (h := ?_)
      refine zqp 16 (some 59) (zqB 21 131071) (by kernel_rfl) (h := ?_)
      refine zqp 17 (some 60) (zqB 21 262143) (by kernel_rfl) (h := ?_)
      refine zqt 18 (some 61) (zqB 21 524287) (by kernel_rfl) hHeld (h := ?_)
      refine zqp 19 (some 62) (zqB 21 1048575) (by kernel_rfl) (h := ?_)
      refine zqp 20 (some 42) (zqB 21 2097151) (by kernel_rfl) (h := ?_)
      refine done_ (by kernel_rfl) ?_
      by_cases hfu : rm < wrap64 (load + stops[i].f2)
      · have dfu : decide (rm < wrap64 (load + stops[i].f2)) = true := decide_eq_true hfu
        go_wp2
        go_ret
        exact ⟨congrArg (fun z => Ending.returned (Value.int .i64 z)) (HV.out.trans (if_pos (by omega))).symm, n1_ + 1, rfl⟩
      · have dfu : decide (rm < wrap64 (load + stops[i].f2)) = false := decide_eq_false hfu
        go_wp2
        go_ret
        exact ⟨congrArg (fun z => Ending.returned (Value.int .i64 z)) (HV.out.trans (if_neg (by omega))).symm, n1_ + 1, rfl⟩

-- NOT PRINTED: function 78 (plane_place)

/-! ### num_Root: function 79, BY HAND -/
theorem hidNR {p : Prop} (h : p) : Hid p := h
def rootGo (n : Int) : Nat → Int → Int
  | 0, r => if (r + 1) * (r + 1) < n then r + 1 else r
  | j + 1, r => rootGo n j (if (r + 2 ^ (j + 1)) * (r + 2 ^ (j + 1)) < n then r + 2 ^ (j + 1) else r)
def rootTop (m : Int) : Int := if 0 < m then rootGo m 30 0 + 1 else rootGo m 30 0
def num_Root.f (a0 : Int) : Option Int := some (rootTop (mn (mx a0 0) 1152921504606846976))

theorem sq_bd {x : Int} (h0 : 0 ≤ x) (h : x ≤ 2147483648) : 0 ≤ x * x ∧ x * x ≤ 4611686018427387904 := by
  refine ⟨Int.mul_nonneg h0 h0, ?_⟩
  have := Int.mul_le_mul h h h0 (by omega)
  omega
theorem two_pow_half (j : Nat) : (2 : Int) ^ (j + 1) / 2 = 2 ^ j := by rw [Int.pow_succ]; omega
theorem two_pow_pos (j : Nat) : (1 : Int) ≤ 2 ^ j := by have : (0:Int) < 2 ^ j := Int.pow_pos (by omega); omega

theorem root_next {q x b r : Int} {j : Nat} (hj : b = 2 ^ j) (hb2 : 0 < b / 2) (HR : (if 0 < q then rootGo q j x + 1 else rootGo q j x) = r) :
    ∃ i : Nat, b / 2 = 2 ^ i ∧ (∀ y, y = (if (x + b) * (x + b) < q then x + b else x) → (if 0 < q then rootGo q i y + 1 else rootGo q i y) = r) := by
  cases j with
  | zero => subst hj; exact absurd hb2 (by decide)
  | succ i =>
    refine ⟨i, by rw [hj]; exact two_pow_half i, ?_⟩
    rintro y rfl
    rw [hj]
    simpa only [rootGo] using HR
theorem root_last {q x b r : Int} {j : Nat} (hj : b = 2 ^ j) (hb : 1 ≤ b) (hb2 : b / 2 ≤ 0) (HR : (if 0 < q then rootGo q j x + 1 else rootGo q j x) = r) :
    (∀ y, y = (if (x + b) * (x + b) < q then x + b else x) → (if 0 < q then y + 1 else y) = r) := by
  have hb1 : b = 1 := by omega
  cases j with
  | zero =>
    rintro y rfl
    rw [hb1]
    simpa only [rootGo] using HR
  | succ i =>
    have := two_pow_pos i
    rw [Int.pow_succ] at hj
    omega
set_option maxHeartbeats 2000000 in
set_option maxRecDepth 100000 in
theorem num_Root.calls (n : Int) (r : Int) (w : World) (h : num_Root.f n = some r) :
    Calls Tryd.prog 79 #[.int .i64 n] w fun e w' => e = .returned (.int .i64 r) ∧ Below w.heap.size w w' := by
  unfold num_Root.f at h
  injection h with h
  obtain ⟨q1, hq1⟩ : ∃ q1, (if n < 0 then 0 else n) = q1 := ⟨_, rfl⟩
  obtain ⟨q, hq⟩ : ∃ q, (if 1152921504606846976 < q1 then 1152921504606846976 else q1) = q := ⟨_, rfl⟩
  have e0 : mn (mx n 0) 1152921504606846976 = q := by unfold mn mx; rw [hq1, hq]
  rw [e0] at h
  clear e0
  have HH := hidNR h
  have hge1 : 0 ≤ q1 := by rw [← hq1]; split <;> omega
  have hlo : q ≤ 1152921504606846976 := by rw [← hq]; split <;> omega
  have hge : 0 ≤ q := by rw [← hq]; split <;> omega
  clear h
  go_enter Tryd.func79, Tryd.ntmps79
  go_wp2
  refine wp_scope_jumps 0 (fun a' w' => w' = w ∧ ∃ (x b : Int) (j : Nat) (u1 u5 u6 u7 u8 u9 u10 u11 u12 u13 u14 u15 u16 u17 u18 u19 u20 u21 u22 u23 u24 u25 u26 : Value), a' = { tmps := #[.int .i64 q, u1, .int .i64 0, .int .i64 x, .int .i64 b, u5, u6, u7, u8, u9, u10, u11, u12, u13, u14, u15, u16, u17, u18, u19, u20, u21, u22, u23, u24, u25, u26], defers := [] } ∧ Hid (b = 2 ^ j) ∧ 0 ≤ x ∧ 1 ≤ b ∧ x + 2 * b ≤ 2147483648 ∧ Hid ((if 0 < q then rootGo q j x + 1 else rootGo q j x) = r)) (fun a' _ => (intOf (a'.tmps.getD 4 undef)).toNat) rfl ?_ ?_
  · have NX := hidNR (root_next (x := 0) (b := 1073741824) (j := 30) (by decide) (by decide) HH.out)
    go_wp2
    go_step3
    go_wp2
    go_step3
    obtain ⟨i, hi, hn⟩ := NX.out
    exact ⟨rfl, rfl, 0, 536870912, i, _, _, _, _, _, _, _, _, _, _, _, _, _, _, _, _, _, _, _, _, _, _, _, rfl, hidNR (by rw [← hi]; rfl), by omega, by omega, by omega, hidNR (hn _ (by rw [if_neg (by omega)]))⟩
  · rintro a' w' ⟨rfl, x, b, j, u1, u5, u6, u7, u8, u9, u10, u11, u12, u13, u14, u15, u16, u17, u18, u19, u20, u21, u22, u23, u24, u25, u26, rfl, hj, hx, hb, hxb, HR⟩
    clear hq hq1
    have hsq := sq_bd (x := x + b) (by omega) (by omega)
    obtain ⟨hs1, hs2⟩ := hsq
    by_cases hlt : (x + b) * (x + b) < q
    · have hq0 : 0 < q := by omega
      by_cases hb2 : 0 < b / 2
      · have NX := hidNR (root_next hj.out hb2 HR.out)
        go_wp2
        go_step3
        obtain ⟨i, hi, hn⟩ := NX.out
        exact ⟨rfl, ⟨rfl, _, _, i, _, _, _, _, _, _, _, _, _, _, _, _, _, _, _, _, _, _, _, _, _, _, _, rfl, hidNR hi, by omega, by omega, by omega, hidNR (hn _ (by rw [if_pos (by omega)]))⟩, by simp [intOf]; omega⟩
      · have NX := hidNR (root_last hj.out hb (by omega) HR.out)
        go_wp2
        simp only [Exit.jump]
        go_ret
        have hn := NX.out _ rfl
        rw [if_pos hlt, if_pos hq0] at hn
        exact ⟨by rw [← hn]; rfl, Below.refl _ _⟩
    · by_cases hb2 : 0 < b / 2
      · have NX := hidNR (root_next hj.out hb2 HR.out)
        go_wp2
        go_step3
        obtain ⟨i, hi, hn⟩ := NX.out
        exact ⟨rfl, ⟨rfl, _, _, i, _, _, _, _, _, _, _, _, _, _, _, _, _, _, _, _, _, _, _, _, _, _, _, rfl, hidNR hi, by omega, by omega, by omega, hidNR (hn _ (by rw [if_neg (by omega)]))⟩, by simp [intOf]; omega⟩
      · have NX := hidNR (root_last hj.out hb (by omega) HR.out)
        by_cases hq0 : 0 < q
        · go_wp2
          simp only [Exit.jump]
          go_ret
          have hn := NX.out _ rfl
          simp only [if_neg (show ¬ ((x + b) * (x + b) < q) by omega), if_pos hq0] at hn
          exact ⟨by rw [← hn]; rfl, Below.refl _ _⟩
        · go_wp2
          simp only [Exit.jump]
          go_ret
          have hn := NX.out _ rfl
          simp only [if_neg (show ¬ ((x + b) * (x + b) < q) by omega), if_neg (show ¬ (0 < q) by omega)] at hn
          exact ⟨by rw [← hn]; rfl, Below.refl _ _⟩

/-! ### plane_Far: function 71, BY HAND -/
def coordP (n : Int) : Int := mn (mx n 0) 10000
theorem bound_calls (n : Int) (w : World) : Calls Tryd.prog 82 #[.int .i64 n] w fun e w' => e = .returned (.float .f64 (floatOfInt .f64 (coordP n))) ∧ w = w' := by
  obtain ⟨q1, hq1⟩ : ∃ q1, (if n < 0 then 0 else n) = q1 := ⟨_, rfl⟩
  obtain ⟨q, hq⟩ : ∃ q, (if 10000 < q1 then 10000 else q1) = q := ⟨_, rfl⟩
  have e0 : coordP n = q := by unfold coordP mn mx; rw [hq1, hq]
  rw [e0]
  clear e0
  have hconv : ∀ (W : World), (convert 3 117 (.int .i64 q)).run Tryd.prog W = .ok (.float .f64 (floatOfInt .f64 q)) W := fun W => run_convert_int_float W 3 117 .i64 .f64 q (by kernel_rfl) (by kernel_rfl)
  go_enter Tryd.func82, Tryd.ntmps82
  go_wp2
  go_ret
  exact ⟨rfl, rfl⟩

def PlacePost (w : World) (a0 a1 a2 a3 a4 a5 : Int) (e : Ending) (w' : World) : Prop := e = .returned (.complex .f64 (floatOfInt .f64 (coordP a0)) (floatOfInt .f64 (coordP a1))) ∧ ∃ n, w' = (w.alloc (.cells #[.int .i64 a0, .int .i64 a1, .int .i64 a2, .int .i64 a3, .int .i64 a4, .int .i64 a5] 58)).drewN n
theorem place_calls (a0 a1 a2 a3 a4 a5 : Int) (w : World) : Calls Tryd.prog 78 #[.agg #[.int .i64 a0, .int .i64 a1, .int .i64 a2, .int .i64 a3, .int .i64 a4, .int .i64 a5]] w (PlacePost w a0 a1 a2 a3 a4 a5) := by
  go_enter Tryd.func78, Tryd.ntmps78
  go_wp2_with fail
  go_quiet ((exact Calls.quiet_of_same ((bound_calls _ _).mono fun _ _ h => ⟨h.1, h.2.symm⟩)))
  go_wp2
  go_ret
  exact ⟨rfl, _, rfl⟩

theorem coordP_bd (n : Int) : 0 ≤ coordP n ∧ coordP n ≤ 10000 := by
  unfold coordP mn mx
  by_cases h : n < 0
  · rw [if_pos h, if_neg (by omega)]; omega
  · rw [if_neg h]
    by_cases h2 : 10000 < n
    · rw [if_pos h2]; omega
    · rw [if_neg h2]; omega
theorem sq_bd4 {x : Int} (h : -10000 ≤ x) (h' : x ≤ 10000) : 0 ≤ x * x ∧ x * x ≤ 100000000 := by
  by_cases h0 : 0 ≤ x
  · refine ⟨Int.mul_nonneg h0 h0, ?_⟩
    have := Int.mul_le_mul h' h' h0 (by omega)
    omega
  · have e : x * x = (-x) * (-x) := (Int.neg_mul_neg x x).symm
    rw [e]
    refine ⟨Int.mul_nonneg (by omega) (by omega), ?_⟩
    have := Int.mul_le_mul (show -x ≤ 10000 by omega) (show -x ≤ 10000 by omega) (by omega) (by omega)
    omega
theorem prod_bd4 {x y : Int} (h : -10000 ≤ x) (h' : x ≤ 10000) (k : -10000 ≤ y) (k' : y ≤ 10000) : (x * y).natAbs ≤ 100000000 := by
  rw [Int.natAbs_mul]
  have := Nat.mul_le_mul (show x.natAbs ≤ 10000 by omega) (show y.natAbs ≤ 10000 by omega)
  omega
/-- The float that stands for the square of how far it is. -/
theorem far_floats (p q s t : Int) (hp : 0 ≤ p ∧ p ≤ 10000) (hq : 0 ≤ q ∧ q ≤ 10000) (hs : 0 ≤ s ∧ s ≤ 10000) (ht : 0 ≤ t ∧ t ≤ 10000) :
    ∃ z1 z2 re im, cSumBits .sub .f64 (floatOfInt .f64 p) (floatOfInt .f64 q) (floatOfInt .f64 s) (floatOfInt .f64 t) = some (z1, z2) ∧
      cMulBits z1 z2 z1 (Op.negFloat .f64 z2) = some (re, im) ∧ floatToIntVal .f64 re .i64 = some ((p - s) * (p - s) + (q - t) * (q - t)) := by
  obtain ⟨z1, e1, f1⟩ := (Go.Proofs.YtdkhajgfifaibaaDoor.Fl.FV.ofInt (n := p) (by omega)).sub (Go.Proofs.YtdkhajgfifaibaaDoor.Fl.FV.ofInt (n := s) (by omega)) (by omega)
  obtain ⟨z2, e2, f2⟩ := (Go.Proofs.YtdkhajgfifaibaaDoor.Fl.FV.ofInt (n := q) (by omega)).sub (Go.Proofs.YtdkhajgfifaibaaDoor.Fl.FV.ofInt (n := t) (by omega)) (by omega)
  generalize hx : p - s = x at *
  generalize hy : q - t = y at *
  have sx := sq_bd4 (x := x) (by omega) (by omega)
  have sy := sq_bd4 (x := y) (by omega) (by omega)
  have sxy := prod_bd4 (x := x) (y := y) (by omega) (by omega) (by omega) (by omega)
  have eyy : y * -y = -(y * y) := Int.mul_neg y y
  have exy : x * -y = -(x * y) := Int.mul_neg x y
  have eyx : y * x = x * y := Int.mul_comm y x
  have f3 := f2.neg
  obtain ⟨ac, g1, h1⟩ := f1.mul f1 (by omega)
  obtain ⟨bd, g2, h2⟩ := f2.mul f3 (by omega)
  obtain ⟨re, g3, h3⟩ := h1.sub h2 (by omega)
  obtain ⟨ad, g4, h4⟩ := f1.mul f3 (by omega)
  obtain ⟨bc, g5, h5⟩ := f2.mul f1 (by omega)
  obtain ⟨im, g6, h6⟩ := h4.add h5 (by omega)
  refine ⟨z1, z2, re, im, ?_, ?_, ?_⟩
  · unfold cSumBits; rw [e1, e2]; rfl
  · unfold cMulBits; simp only [g1, g2, g3, g4, g5, g6, Option.bind_some]
  · have := h3.toInt (by omega) (by omega)
    rw [this]; congr 1; omega

def plane_Far.f (a0_0 a0_1 a0_2 a0_3 a0_4 a0_5 : Int) (a1_0 a1_1 a1_2 a1_3 a1_4 a1_5 : Int) : Option Int := num_Root.f ((coordP a0_0 - coordP a1_0) * (coordP a0_0 - coordP a1_0) + (coordP a0_1 - coordP a1_1) * (coordP a0_1 - coordP a1_1))
theorem plane_Far.calls (a0_0 a0_1 a0_2 a0_3 a0_4 a0_5 : Int) (a1_0 a1_1 a1_2 a1_3 a1_4 a1_5 : Int) (r : Int) (w : World) (h : plane_Far.f a0_0 a0_1 a0_2 a0_3 a0_4 a0_5 a1_0 a1_1 a1_2 a1_3 a1_4 a1_5 = some r) :
    Calls Tryd.prog 71 #[.agg #[.int .i64 a0_0, .int .i64 a0_1, .int .i64 a0_2, .int .i64 a0_3, .int .i64 a0_4, .int .i64 a0_5], .agg #[.int .i64 a1_0, .int .i64 a1_1, .int .i64 a1_2, .int .i64 a1_3, .int .i64 a1_4, .int .i64 a1_5]] w fun e w' => e = .returned (.int .i64 r) ∧ Below w.heap.size w w' := by
  obtain ⟨z1, z2, re, im, e1, e2, e3⟩ := far_floats (coordP a0_0) (coordP a0_1) (coordP a1_0) (coordP a1_1) (coordP_bd _) (coordP_bd _) (coordP_bd _) (coordP_bd _)
  have hsub := fun W : World => run_complex_sum (P := Tryd.prog) W .sub (.inr rfl) 115 .f64 _ _ _ _ _ _ e1
  have hmul := fun W : World => run_complex_mul (P := Tryd.prog) W 115 _ _ _ _ _ _ e2
  have hconv := fun W : World => run_convert_float_int (P := Tryd.prog) W 117 3 .f64 .i64 re _ (by kernel_rfl) (by kernel_rfl) e3
  have hneg : ∀ W : World, (Op.unary .neg (.float .f64 z2)).run Tryd.prog W = .ok (.float .f64 (Op.negFloat .f64 z2)) W := fun W => rfl
  have HH := hidNR h
  clear e1 e2 e3 h
  go_enter Tryd.func71, Tryd.ntmps71
  go_wp2_with fail
  go_region_with ((refine (place_calls _ _ _ _ _ _ _).mono ?_; rintro e w' ⟨rfl, n, rfl⟩))
  all_goals
    go_wp2_with ((go_at_call 79; refine (num_Root.calls _ r _ HH.out).mono ?_; rintro e w' ⟨rfl, hb⟩))
    go_ret
    exact ⟨rfl, below_step (by repeat (first | exact Below.refl _ _ | apply below_alloc | apply pw_below_drewN | apply below_drew1)) hb⟩

/-! ### sched_car_drive: function 62, BY HAND -/
set_option maxHeartbeats 8000000 in
set_option maxRecDepth 100000 in
theorem drive_r (g : Nat) (p cs rm : Int) (ad : Addr) (sc : Nat) (stops : List S58) (a i : Nat) (now far load seen on : Int) (vt vl : Value) (dd : Int) (w : World) (ha : a < stops.length) (hi : i < stops.length)
    (hg : w.heap[g]? = some (.cells #[.int .i64 p, .int .i64 cs, .int .i64 rm, .slice (some ad) stops.length sc, .int .i64 (a : Int), .int .i64 now, .int .i64 far, .int .i64 load, .int .u64 seen, .int .u64 on, vt, vl] 84 (0, 0))) (hr : Kd.C k58 w (some ad) stops.length stops) (hd : plane_Far.f stops[a].f0 stops[a].f1 stops[a].f2 stops[a].f3 stops[a].f4 stops[a].f5 stops[i].f0 stops[i].f1 stops[i].f2 stops[i].f3 stops[i].f4 stops[i].f5 = some dd) :
    Calls Tryd.prog 62 #[.pointer (some ⟨g, 0, none⟩), .int .i64 (i : Int)] w fun e w' => e = .returned (.int .i64 (wrap64 (now + dd))) ∧ w'.heap[g]? = some (.cells #[.int .i64 p, .int .i64 cs, .int .i64 rm, .slice (some ad) stops.length sc, .int .i64 (i : Int), .int .i64 now, .int .i64 (wrap64 (far + dd)), .int .i64 load, .int .u64 seen, .int .u64 on, vt, vl] 84 (0, 0)) ∧ w.grownBy w' (some g) := by
  have hmax := Kd.C_max hr
  have HG := hidK hg
  have HA := hidK (show Stop6 w ad stops a ha by obtain ⟨ad2, e, h⟩ := stop6 hr a ha; obtain rfl := Option.some.inj e; exact h)
  have HI := hidK (show Stop6 w ad stops i hi by obtain ⟨ad2, e, h⟩ := stop6 hr i hi; obtain rfl := Option.some.inj e; exact h)
  have HD := hidK hd
  clear hg hr hd
  have q1 : (0 : Int) ≤ (a : Int) := by omega
  have q2 : (a : Int) < (stops.length : Int) := by omega
  have q3 : (0 : Int) ≤ (i : Int) := by omega
  have q4 : (i : Int) < (stops.length : Int) := by omega
  go_enter Tryd.func62, Tryd.ntmps62
  go_wp2
  refine start_ (n := 21) (S := fun w' => w'.cell? ⟨g, 3, none⟩ = some (.slice (some ad) stops.length sc) ∧ w'.cell? ⟨g, 4, none⟩ = some (.int .i64 (a : Int)) ∧ w'.cell? (ad.add (a * 6)) = some (.int .i64 stops[a].f0) ∧ w'.cell? ⟨(ad.add (a * 6)).block, (ad.add (a * 6)).off + 1, none⟩ = some (.int .i64 stops[a].f1) ∧ w'.cell? ⟨(ad.add (a * 6)).block, (ad.add (a * 6)).off + 2, none⟩ = some (.int .i64 stops[a].f2) ∧ w'.cell? ⟨(ad.add (a * 6)).block, (ad.add (a * 6)).off + 3, none⟩ = some (.int .i64 stops[a].f3) ∧ w'.cell? ⟨(ad.add (a * 6)).block, (ad.add (a * 6)).off + 4, none⟩ = some (.int .i64 stops[a].f4) ∧ w'.cell? ⟨(ad.add (a * 6)).block, (ad.add (a * 6)).off + 5, none⟩ = some (.int .i64 stops[a].f5) ∧ w'.cell? (ad.add (i * 6)) = some (.int .i64 stops[i].f0) ∧ w'.cell? ⟨(ad.add (i * 6)).block, (ad.add (i * 6)).off + 1, none⟩ = some (.int .i64 stops[i].f1) ∧ w'.cell? ⟨(ad.add (i * 6)).block, (ad.add (i * 6)).off + 2, none⟩ = some (.int .i64 stops[i].f2) ∧ w'.cell? ⟨(ad.add (i * 6)).block, (ad.add (i * 6)).off + 3, none⟩ = some (.int .i64 stops[i].f3) ∧ w'.cell? ⟨(ad.add (i * 6)).block, (ad.add (i * 6)).off + 4, none⟩ = some (.int .i64 stops[i].f4) ∧ w'.cell? ⟨(ad.add (i * 6)).block, (ad.add (i * 6)).off + 5, none⟩ = some (.int .i64 stops[i].f5)) (ds := []) (zqB 21 0) (by kernel_rfl) rfl rfl (⟨blk_cell HG.out 3, blk_cell HG.out 4, HA.out.1, HA.out.2.1, HA.out.2.2.1, HA.out.2.2.2.1, HA.out.2.2.2.2.1, HA.out.2.2.2.2.2, HI.out.1, HI.out.2.1, HI.out.2.2.1, HI.out.2.2.2.1, HI.out.2.2.2.2.1, HI.out.2.2.2.2.2⟩) (fun hHeld => ?_)
  refine zqp 0 (some 6) (zqB 21 1) (by kernel_rfl) (h := ?_)
  refine zqp 1 (some 7) (zqB 21 3) (by kernel_rfl) (h := ?_)
  refine zqp 2 (some 8) (zqB 21 7) (by kernel_rfl) (h := ?_)
  refine zqp 3 (some 9) (zqB 21 15) (by kernel_rfl) (h := ?_)
  refine zqt 4 (some 10) (zqB 21 31) (by kernel_rfl) hHeld (h := ?_)
  refine zqp 5 (some 11) (zqB 21 63) (by kernel_rfl) (h := ?_)
  refine zqp 6 (some 12) (zqB 21 127) (by kernel_rfl) (h := ?_)
  refine zqp 7 (some 13) (zqB 21 255) (by kernel_rfl) (h := ?_)
  refine zqt 8 (some 14) (zqB 21 511) (by kernel_rfl) hHeld (h := ?_)
  refine zqp 9 (some 15) (zqB 21 1023) (by kernel_rfl) (h := ?_)
  refine zqt 10 (some 16) (zqB 21 2047) (by kernel_rfl) hHeld (h := ?_)
  refine zqp 11 (some 17) (zqB 21 4095) (by kernel_rfl) (h := ?_)
  refine zqp 12 (some 18) (zqB 21 8191) (by kernel_rfl) (h := ?_)
  refine zqp 13 (some 19) (zqB 21 16383) (by kernel_rfl) (h := ?_)
  refine zqp 14 (some 20) (zqB 21 32767) (by kernel_rfl) (h := ?_)
  refine zqt 15 (some 21) (zqB 21 65535) (by kernel_rfl) hHeld (h := ?_)
  refine zqp 16 (some 22) (zqB 21 131071) (by kernel_rfl) (h := ?_)
  refine zqp 17 (some 23) (zqB 21 262143) (by kernel_rfl) (h := ?_)
  refine zqt 18 (some 24) (zqB 21 524287) (by kernel_rfl) hHeld (h := ?_)
  refine one_ (i := 19) (N := some 25) (zqB 21 1048575) rfl rfl (by kernel_rfl) (by decide) (fun K hK => ?_)
  refine goes_ Tryd.func71 (by kernel_rfl) rfl #[.agg #[.int .i64 stops[a].f0, .int .i64 stops[a].f1, .int .i64 stops[a].f2, .int .i64 stops[a].f3, .int .i64 stops[a].f4, .int .i64 stops[a].f5], .agg #[.int .i64 stops[i].f0, .int .i64 stops[i].f1, .int .i64 stops[i].f2, .int .i64 stops[i].f3, .int .i64 stops[i].f4, .int .i64 stops[i].f5]] (by rfl) rfl rfl (by first | rfl | (simp only [List.map_toArray, List.map_cons, List.map_nil]; rfl)) ?_
  refine (plane_Far.calls _ _ _ _ _ _ _ _ _ _ _ _ dd _ HD.out).mono ?_
  rintro e w1 ⟨rfl, hb⟩
  refine ⟨_, rfl, ?_⟩
  have HG1 := hidK (blk_below (blk_drew HG.out) hb)
  have HB1 := hidK (below_step (below_drew1 (Below.refl _ w)) hb)
  refine hK.out _ _ ⟨pw_cell_below hb hHeld.1, pw_cell_below hb hHeld.2.1, pw_cell_below hb hHeld.2.2.1, pw_cell_below hb hHeld.2.2.2.1, pw_cell_below hb hHeld.2.2.2.2.1, pw_cell_below hb hHeld.2.2.2.2.2.1, pw_cell_below hb hHeld.2.2.2.2.2.2.1, pw_cell_below hb hHeld.2.2.2.2.2.2.2.1, pw_cell_below hb hHeld.2.2.2.2.2.2.2.2.1, pw_cell_below hb hHeld.2.2.2.2.2.2.2.2.2.1, pw_cell_below hb hHeld.2.2.2.2.2.2.2.2.2.2.1, pw_cell_below hb hHeld.2.2.2.2.2.2.2.2.2.2.2.1, pw_cell_below hb hHeld.2.2.2.2.2.2.2.2.2.2.2.2.1, pw_cell_below hb hHeld.2.2.2.2.2.2.2.2.2.2.2.2.2⟩ (fun hHeld => ?_)
  clear hK K hb
  refine norm_ (a' := ?_) ?_ ?_
  rotate_left
  · show Act.put _ _ _ = _
    simp only [Act.put, List.setIfInBounds_toArray, List.set_cons_zero, List.set_cons_succ, i64_w, i32_w]
    rfl
  refine zqp 20 (some 5) (zqB 21 2097151) (by kernel_rfl) (h := ?_)
  refine done_ (by kernel_rfl) ?_
  have c5 := blk_cell HG1.out 5
  have c6 := blk_cell HG1.out 6
  have c4 := blk_cell HG1.out 4
  have f4 := blk_frozen HG1.out 4
  have f6 := blk_frozen HG1.out 6
  go_wp2
  go_ret
  refine ⟨by first | rfl | simp, blk_put (blk_put HG1.out 4 _ rfl) 6 _ rfl, ?_⟩
  have h := HB1.out
  refine ⟨h.os, h.tape, h.output, by simpa using h.size, fun k hk hne => ?_⟩
  have hk2 : k ≠ g := fun e => hne (by rw [e])
  rw [Below.heap_setCell _ _ _ _ hk2, Below.heap_setCell _ _ _ _ hk2]
  exact h.block k hk

/-! ### set_With: function 63 -/
def set_With.f (a0 : Int) (a1 : Int) : Option (Int) := (set_bit.f a1).bind fun t193 => (some (Go.bits .or .u64 a0 t193))
set_option maxHeartbeats 8000000 in
set_option maxRecDepth 100000 in
theorem set_With.calls (a0 : Int) (a1 : Int) (r : Int) (w : World) (h : set_With.f a0 a1 = some r) :
    Calls Tryd.prog 63 #[.int .u64 a0, .int .i64 a1] w fun e w' => e = .returned (.int .u64 r) ∧ Drawn0 w w' := by
  have H : ((set_bit.f a1).bind fun t193 => (some (Go.bits .or .u64 a0 t193))) = some r := h
  clear h
  replace H := Option.bind_eq_some_iff.mp H
  obtain ⟨t193, A30, H⟩ := H
  replace H : (some (Go.bits .or .u64 a0 t193)) = some r := H
  have A3 := Aside0.mk A30
  clear A30
  obtain rfl := Option.some.inj H
  go_enter Tryd.func63, Tryd.ntmps63
  go_wp2_with (first | ((with_reducible refine gate_callee (f := 72) rfl ?_); refine goesL_ (some 7) rfl rfl Tryd.func72 (by kernel_rfl) rfl #[.int .i64 a1] rfl (by (try simp only [List.map_toArray, List.map_cons, List.map_nil]); first | done | rfl | (simp only [List.length_drop, List.length_take]; rfl)) ?_; (with_reducible refine (set_bit.calls a1 t193 _ A3.out).mono ?_); rintro e w' ⟨rfl, ⟨nd, rfl⟩⟩; refine ⟨_, rfl, ?_⟩))
  go_ret
  exact ⟨by first | rfl | (simp; done) | (simp [*]; done), by repeat (first | exact Drawn0.refl _ | apply Drawn0.step)⟩

/-! ### set_Without: function 64 -/
def set_Without.f (a0 : Int) (a1 : Int) : Option (Int) := (set_bit.f a1).bind fun t194 => (some (Go.bits .andNot .u64 a0 t194))
set_option maxHeartbeats 8000000 in
set_option maxRecDepth 100000 in
theorem set_Without.calls (a0 : Int) (a1 : Int) (r : Int) (w : World) (h : set_Without.f a0 a1 = some r) :
    Calls Tryd.prog 64 #[.int .u64 a0, .int .i64 a1] w fun e w' => e = .returned (.int .u64 r) ∧ Drawn0 w w' := by
  have H : ((set_bit.f a1).bind fun t194 => (some (Go.bits .andNot .u64 a0 t194))) = some r := h
  clear h
  replace H := Option.bind_eq_some_iff.mp H
  obtain ⟨t194, A30, H⟩ := H
  replace H : (some (Go.bits .andNot .u64 a0 t194)) = some r := H
  have A3 := Aside0.mk A30
  clear A30
  obtain rfl := Option.some.inj H
  go_enter Tryd.func64, Tryd.ntmps64
  go_wp2_with (first | ((with_reducible refine gate_callee (f := 72) rfl ?_); refine goesL_ (some 7) rfl rfl Tryd.func72 (by kernel_rfl) rfl #[.int .i64 a1] rfl (by (try simp only [List.map_toArray, List.map_cons, List.map_nil]); first | done | rfl | (simp only [List.length_drop, List.length_take]; rfl)) ?_; (with_reducible refine (set_bit.calls a1 t194 _ A3.out).mono ?_); rintro e w' ⟨rfl, ⟨nd, rfl⟩⟩; refine ⟨_, rfl, ?_⟩))
  go_ret
  exact ⟨by first | rfl | (simp; done) | (simp [*]; done), by repeat (first | exact Drawn0.refl _ | apply Drawn0.step)⟩

end Go.Proofs.YtdkhajgfifaibaaDoor.PA
