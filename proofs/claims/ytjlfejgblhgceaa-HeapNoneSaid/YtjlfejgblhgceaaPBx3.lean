-- Printed for this claim by wip/tools/xprint.py over the kit's print; the contracts marked BY HAND are this session's own.
import Derived.Test.YtjlfejgblhgceaaPBx0
import Derived.Test.YtjlfejgblhgceaaPBx2
namespace Go.Proofs.Ytjlfejgblhgceaa.PB
open Go.RowKit Go.Proofs.YtjlfejgblhgceaaW.PrintWords Go.Proofs.YtjlfejgblhgceaaW.PrintLast Go.Proofs.YtjlfejgblhgceaaW.PrintMore
attribute [local go_sem] max2_int min2_int max_two min_two max_three min_three max_four min_four   -- for this text's walks alone
set_option linter.unusedVariables false
set_option linter.unusedSimpArgs false

/-! ### heap_item_take: function 22, BY HAND -/
theorem gate_store {P : Program} {ops : Array Oper} {Q : Exit → Act → World → Prop} {rest : List Oper} {o : Oper} {a : Act} {w : World} (t p x : Nat) (_ho : o.op = .store t (.tmp p) (.tmp x)) (h : wpList P ops Q (o :: rest) a w) : wpList P ops Q (o :: rest) a w := h
theorem Frame.refl (w : World) (g : Nat) (r : Option Nat) : Frame w w g r r := ⟨rfl, rfl, rfl, Nat.le_refl _, fun _ _ _ _ => rfl, .inl rfl⟩
theorem R_only {w w1 : World} {base gr n cap : Nat} {xs : List S52} (h : Kd.R k52 52 w base (fun _ => True) (.slice (some ⟨gr, 0, none⟩) n cap) xs) (hb : w1.heap[gr]? = w.heap[gr]?) : Kd.R k52 52 w1 base (fun _ => True) (.slice (some ⟨gr, 0, none⟩) n cap) xs := by
  have h1 : Kd.R k52 52 w base (fun k => k = gr) (.slice (some ⟨gr, 0, none⟩) n cap) xs :=
    ⟨fun k hk => (Option.some.inj hk).symm, h.2.imp_ (fun x cs hp => by obtain rfl := k52_openM hp; exact k52_mkM _ _ _ x)⟩
  exact Kd.R_mono (Kd.R_move h1 (fun k hk => by rw [hk]; exact hb)) (fun _ _ => trivial)
theorem Frame.far {w W W' : World} {g : Nat} {r r' : Option Nat} {B : Nat} (h : Frame w W g r r') (hbel : ∀ b w0, Below b w0 W → b ≤ B → Below b w0 W') (hfar : ∀ k, k ≠ B → W'.heap[k]? = W.heap[k]?) (hB : w.heap.size ≤ B) : Frame w W' g r r' := by
  have hb := hbel w.heap.size W (Below.refl _ _) hB
  exact ⟨hb.os.trans h.os, hb.tape.trans h.tape, hb.output.trans h.output, Nat.le_trans h.size hb.size, fun k hk h1 h2 => (hfar k (by omega)).trans (h.block k hk h1 h2), h.row⟩
theorem cell_eq {w w1 : World} {a : Addr} (h : w1.heap[a.block]? = w.heap[a.block]?) : w1.cell? a = w.cell? a := by
  unfold World.cell?
  rw [h]
theorem TwoS.far {wr W W' : World} {g : Nat} {v : Value} {p q : Addr} {o : Int} {a b : S23} {B : Nat} (h : TwoS wr g v p q o a b W) (hbel : ∀ b w0, Below b w0 W → b ≤ B → Below b w0 W') (hfar : ∀ k, k ≠ B → W'.heap[k]? = W.heap[k]?) (hB : wr.heap.size ≤ B) (hg : g ≠ B) (hp : p.block ≠ B) (hq : q.block ≠ B) : TwoS wr g v p q o a b W' := by
  obtain ⟨x0, x1, x2, x3, x4, x5, x6, x7, x8, hb⟩ := h
  have c : ∀ {a : Addr} {u : Value}, W.cell? a = some u → a.block ≠ B → W'.cell? a = some u := fun h n => (cell_eq (hfar _ n)).trans h
  exact ⟨c x0 hg, c x1 hp, c x2 hp, c x3 hp, c x4 hp, c x5 hq, c x6 hq, c x7 hq, c x8 hq, hbel _ _ hb hB⟩
theorem index_0 (a b : Value) (W : World) : (Instr.index 59 (.agg #[a, b]) (.int .i64 0)).run Try.prog W = .ok a W := by kernel_rfl
theorem index_1 (a b : Value) (W : World) : (Instr.index 59 (.agg #[a, b]) (.int .i64 1)).run Try.prog W = .ok b W := by kernel_rfl
/-- What holds while the last one goes down: it stands at i. -/
def TakeInv (w : World) (base g gr cap B5 : Nat) (o : Int) (xs : List S23) (w' : World) (i : Nat) (ys : List S23) : Prop :=
  w'.heap[g]? = some (.cells #[.slice (some ⟨gr, 0, none⟩) ys.length cap, .int .i64 o] 49 (0, 0)) ∧ Kd.R k52 52 w' base (fun _ => True) (.slice (some ⟨gr, 0, none⟩) ys.length cap) (ys.map fun e => ⟨e, o⟩) ∧ ys.Perm xs.tail ∧ (HeapPure.Ord (lessE o) xs → HeapPure.Down (lessE o) ys i) ∧ Frame w w' g (some gr) (some gr) ∧
  w'.heap[w.heap.size]? = some (.cells #[.int .i64 0, .int .i64 0, .int .i64 0, .int .i64 0] 52 (0, 0)) ∧ (∀ h0 : 0 < xs.length, w'.heap[B5]? = some (.cells #[.int .i64 (xs[0]'h0).f0, .int .i64 (xs[0]'h0).f1, .int .i64 (xs[0]'h0).f2, .int .i64 o] 52 (0, 0))) ∧ B5 ≠ gr
set_option maxHeartbeats 4000000 in
theorem tree_take (base g : Nat) (r : Option Nat) (o : Int) (xs : List S23) (w : World) (hbase : base ≤ w.heap.size) (hlen : xs.length ≤ 200000) (h : HeapAt w base g r o xs) :
    Calls Try.prog 22 #[.pointer (some ⟨g, 0, none⟩)] w fun e w' => (xs = [] ∧ e = .returned (.tuple #[.agg #[.int .i64 0, .int .i64 0, .int .i64 0, .int .i64 0], .bool false]) ∧ HeapAt w' base g r o [] ∧ Frame w w' g r r) ∨
      (∃ hpos : 0 < xs.length, ∃ ys, e = .returned (.tuple #[.agg #[.int .i64 xs[0].f0, .int .i64 xs[0].f1, .int .i64 xs[0].f2, .int .i64 o], .bool true]) ∧ HeapAt w' base g r o ys ∧ ys.Perm xs.tail ∧ (HeapPure.Ord (lessE o) xs → HeapPure.Ord (lessE o) ys) ∧ Frame w w' g r r) := by
  obtain ⟨hbg, v, hg, hvr, hR⟩ := h
  obtain ⟨W, hW⟩ : ∃ W, W = (w.alloc (.cells #[.int .i64 0, .int .i64 0, .int .i64 0, .int .i64 0] 52)).alloc (.cells #[.int .i64 0, .int .i64 0, .int .i64 0, .int .i64 0] 52) := ⟨_, rfl⟩
  have HX2 := hidH (show W.heap[w.heap.size]? = some (.cells #[.int .i64 0, .int .i64 0, .int .i64 0, .int .i64 0] 52 (0, 0)) by rw [hW]; exact blk_alloc (blk_new _ _) _)
  have HB := hidH (show Below w.heap.size w W by rw [hW]; exact below_alloc (below_alloc (Below.refl _ w) _) _)
  have HSZ := hidH (show W.heap.size = w.heap.size + 2 by rw [hW, World.size_alloc, World.size_alloc])
  have HG := hidH (blk_below hg HB.out)
  have HR := hidH (Kd.R_below hR HB.out)
  have HW := hidH hW
  have HVR := hidH hvr
  have HBG := hidH hbg
  have HGL := hidH (blk_lt hg)
  by_cases hpos : 0 < xs.length
  · have hml : (xs.map fun e => (⟨e, o⟩ : S52)).length = xs.length := List.length_map _
    obtain ⟨gr, cap, ev, hgb, hgl, -⟩ := Kd.R_form hR (by rw [hml]; exact hpos)
    rw [hml] at ev
    subst ev
    obtain ⟨ad, had⟩ : ∃ ad : Addr, ad = ⟨gr, 0, none⟩ := ⟨_, rfl⟩
    rw [← had] at hg hR hvr HG HR HVR
    have HNE := hidH (show g ≠ gr by intro he; exact absurd (Kd.R_ne hR hg (by decide)) (by rw [had, he]; simp [Value.ownBlock]))
    have HAD := hidH had
    have HGB := hidH hgb
    have HRL := hidH hgl
    have HVG := hidH (show r = some gr by rw [← hvr, had]; rfl)
    have hc0 : ((w.alloc (.cells #[.int .i64 0, .int .i64 0, .int .i64 0, .int .i64 0] 52)).alloc (.cells #[.int .i64 0, .int .i64 0, .int .i64 0, .int .i64 0] 52)).cell? ⟨g, 0, none⟩ = some (.slice (some ad) xs.length cap) := by rw [← hW]; exact blk_cell HG.out 0
    have hcap : xs.length ≤ cap := (Kd.R_reads' hR).2.1
    clear hg hvr hR hW hbg had hgb hgl
    have z1 : ((xs.length : Int) = 0) = False := eq_false (by omega)
    have z2 : (xs.length = 0) = False := eq_false (by omega)
    have z3 : decide ((xs.length : Int) = 0) = false := decide_eq_false (by omega)
    have z4 : (0 < xs.length) = True := eq_true hpos
    have z5 : (xs.length - 1 < xs.length) = True := eq_true (by omega)
    have z6 : (xs.length : Int) - 1 = ((xs.length - 1 : Nat) : Int) := by omega
    have z7 : wrap64 ((xs.length - 1 : Nat) : Int) = ((xs.length - 1 : Nat) : Int) := IntWalk.wrap64_in _ ⟨by omega, by omega⟩
    have z8 : (((xs.length - 1 : Nat) : Int) < (xs.length : Int)) = True := eq_true (by omega)
    have z9 : (xs.length ≤ cap + 1) = True := eq_true (by omega)
    go_enter Try.func22, Try.ntmps22
    go_wp2
    refine scope_once 0 (fun a' w' => ∃ (i : Nat) (ys : List S23) (B5 B6 : Nat) (u : Nat → Value), Hid (TakeInv w base g gr cap B5 o xs w' i ys) ∧ i < ys.length ∧ ys.length ≤ 200000 ∧ a' = { tmps := #[.pointer (some ⟨g, 0, none⟩), undef, .pointer (some ⟨w.heap.size, 0, none⟩), .bool false, .pointer (some ⟨w.heap.size + 1, 0, none⟩), .pointer (some ⟨B5, 0, none⟩), .pointer (some ⟨B6, 0, none⟩), .int .i64 (i : Int), (u 8), (u 9), (u 10), (u 11), (u 12), (u 13), (u 14), (u 15), (u 16), (u 17), (u 18), (u 19), (u 20), (u 21), (u 22), (u 23), (u 24), (u 25), (u 26), (u 27), (u 28), (u 29), (u 30), (u 31), (u 32), (u 33), (u 34), (u 35), (u 36), (u 37), (u 38), (u 39), (u 40), (u 41), (u 42), (u 43), (u 44), (u 45), (u 46), (u 47), (u 48), (u 49), (u 50), (u 51), (u 52), (u 53), (u 54), (u 55), (u 56), (u 57), (u 58), (u 59), (u 60), (u 61), (u 62), (u 63), (u 64), (u 65), (u 66), (u 67), (u 68), (u 69), (u 70), (u 71), (u 72), (u 73), (u 74), (u 75), (u 76), (u 77), (u 78), (u 79), (u 80), (u 81), (u 82), (u 83), (u 84), (u 85), (u 86), (u 87), (u 88), (u 89), (u 90), (u 91), (u 92), (u 93), (u 94), (u 95), (u 96), (u 97), (u 98), (u 99), (u 100), (u 101), (u 102), (u 103), (u 104), (u 105), (u 106), (u 107), (u 108), (u 109), (u 110), (u 111), (u 112), (u 113), (u 114), (u 115), (u 116), (u 117), (u 118), (u 119), (u 120), (u 121), (u 122), (u 123), (u 124), (u 125), (u 126), (u 127), (u 128), (u 129), (u 130), (u 131)], defers := [] }) (fun a' _ => 200000 - (intOf (a'.tmps.getD 7 undef)).toNat) rfl ?first ?pass
    case first =>
      intro J' hnext
      go_wp2
      rw [← HW.out]
      refine start_ (n := 22) (S := TwoS W g (.slice (some ad) xs.length cap) ad (ad.add ((xs.length - 1) * 4)) o xs[0] xs[xs.length - 1]) (ds := [21]) (zqB 22 0) (by kernel_rfl) rfl rfl ((by have e_ := (two_at HG.out HR.out 0 (xs.length - 1) hpos (by omega)).drew; rwa [HAD.out, add_at, Nat.zero_mul, Nat.add_zero, ← HAD.out] at e_)) (fun hHeld => ?_)
      generalize hD : W.drew = V at hHeld ⊢
      have HDV := hidH (show Below W.heap.size W V by rw [← hD]; exact below_drew1 (Below.refl _ _))
      clear hD
      refine zqp 0 (some 18) (zqB 22 1) (by kernel_rfl) (h := ?_)
      refine zqp 1 (some 19) (zqB 22 3) (by kernel_rfl) (h := ?_)
      refine zqp 2 (some 20) (zqB 22 7) (by kernel_rfl) (h := ?_)
      refine zqt 3 (some 21) (zqB 22 15) (by kernel_rfl) hHeld (h := ?_)
      refine zqp 4 (some 22) (zqB 22 31) (by kernel_rfl) (h := ?_)
      refine zqt 5 (some 23) (zqB 22 63) (by kernel_rfl) hHeld (h := ?_)
      refine zqp 6 (some 24) (zqB 22 127) (by kernel_rfl) (h := ?_)
      refine zqp 7 (some 25) (zqB 22 255) (by kernel_rfl) (h := ?_)
      refine zqp 8 (some 26) (zqB 22 511) (by kernel_rfl) (h := ?_)
      refine zqt 9 (some 27) (zqB 22 1023) (by kernel_rfl) hHeld (h := ?_)
      refine zqp 10 (some 28) (zqB 22 2047) (by kernel_rfl) (h := ?_)
      refine zqp 11 (some 29) (zqB 22 4095) (by kernel_rfl) (h := ?_)
      refine zqp 12 (some 30) (zqB 22 8191) (by kernel_rfl) (h := ?_)
      refine zqt 13 (some 31) (zqB 22 16383) (by kernel_rfl) hHeld (h := ?_)
      refine zqp 14 (some 32) (zqB 22 32767) (by kernel_rfl) (h := ?_)
      refine zqp 15 (some 33) (zqB 22 65535) (by kernel_rfl) (h := ?_)
      refine zqp 16 (some 34) (zqB 22 131071) (by kernel_rfl) (h := ?_)
      refine zqt 17 (some 35) (zqB 22 262143) (by kernel_rfl) hHeld (h := ?_)
      refine join_ (σ := Nat × Nat) 2 (zqB 22 1048575) (fun s_ => [(5, .pointer (some ⟨s_.1, 0, none⟩)), (6, .pointer (some ⟨s_.2, 0, none⟩))]) (fun s_ w' => w'.heap[s_.1]? = some (.cells #[.int .i64 0, .int .i64 0, .int .i64 0, .int .i64 0] 52 (0, 0)) ∧ w'.heap[s_.2]? = some (.cells #[.int .i64 0, .int .i64 0, .int .i64 0, .int .i64 0] 52 (0, 0)) ∧ s_.1 ≠ s_.2 ∧ V.heap.size ≤ s_.1 ∧ V.heap.size ≤ s_.2 ∧ Below V.heap.size V w' ∧ TwoS W g (.slice (some ad) xs.length cap) ad (ad.add ((xs.length - 1) * 4)) o xs[0] xs[xs.length - 1] w') ?hcont ?hord
      case hord =>
        intro hCont
        refine two_ (i := 18) (j := 19) (Ni := some 5) (Nj := some 6) (zqB 22 524287) (zqB 22 786431) rfl rfl rfl rfl (by kernel_rfl) (by decide) (by decide) (fun K hK => ?_) (fun K hK => ?_)
        · refine value_ (w1 := ?_) (v := ?_) (by rfl) rfl ?_ ?_
          rotate_left 2
          · go_simp
            constructor
            · rfl
            · rfl
          refine hK.out _ _ (TwoS.on hHeld (below_alloc (Below.refl _ _) _)) (fun hHeld => ?_)
          clear hK K
          refine norm_ (a' := ?_) ?_ ?_
          rotate_left
          · show Act.put _ _ _ = _
            simp only [Act.put, List.setIfInBounds_toArray, List.set_cons_zero, List.set_cons_succ, i64_w, i32_w]
            rfl
          refine one_ (i := 19) (N := some 6) (zqB 22 1048575) rfl rfl (by kernel_rfl) (by decide) (fun K hK => ?_)
          refine value_ (w1 := ?_) (v := ?_) (by rfl) rfl ?_ ?_
          rotate_left 2
          · go_simp
            constructor
            · rfl
            · rfl
          refine hK.out _ _ (TwoS.on hHeld (below_alloc (Below.refl _ _) _)) (fun hHeld => ?_)
          clear hK K
          exact norm_ (by simp only [putAll, Act.put, List.setIfInBounds_toArray, List.set_cons_zero, List.set_cons_succ]) (hCont (V.heap.size, V.heap.size + 1) _ ⟨blk_alloc (blk_new _ _) _, (by have e := blk_new (V.alloc (.cells #[.int .i64 0, .int .i64 0, .int .i64 0, .int .i64 0] 52)) (.cells #[.int .i64 0, .int .i64 0, .int .i64 0, .int .i64 0] 52); rwa [World.size_alloc] at e), by simp, by simp, by simp, below_alloc (below_alloc (Below.refl _ _) _) _, hHeld⟩)
        · refine value_ (w1 := ?_) (v := ?_) (by rfl) rfl ?_ ?_
          rotate_left 2
          · go_simp
            constructor
            · rfl
            · rfl
          refine hK.out _ _ (TwoS.on hHeld (below_alloc (Below.refl _ _) _)) (fun hHeld => ?_)
          clear hK K
          refine norm_ (a' := ?_) ?_ ?_
          rotate_left
          · show Act.put _ _ _ = _
            simp only [Act.put, List.setIfInBounds_toArray, List.set_cons_zero, List.set_cons_succ, i64_w, i32_w]
            rfl
          refine one_ (i := 18) (N := some 5) (zqB 22 1048575) rfl rfl (by kernel_rfl) (by decide) (fun K hK => ?_)
          refine value_ (w1 := ?_) (v := ?_) (by rfl) rfl ?_ ?_
          rotate_left 2
          · go_simp
            constructor
            · rfl
            · rfl
          refine hK.out _ _ (TwoS.on hHeld (below_alloc (Below.refl _ _) _)) (fun hHeld => ?_)
          clear hK K
          exact norm_ (by simp only [putAll, Act.put, List.setIfInBounds_toArray, List.set_cons_zero, List.set_cons_succ]) (hCont (V.heap.size + 1, V.heap.size) _ ⟨(by have e := blk_new (V.alloc (.cells #[.int .i64 0, .int .i64 0, .int .i64 0, .int .i64 0] 52)) (.cells #[.int .i64 0, .int .i64 0, .int .i64 0, .int .i64 0] 52); rwa [World.size_alloc] at e), blk_alloc (blk_new _ _) _, by simp, by simp, by simp, below_alloc (below_alloc (Below.refl _ _) _) _, hHeld⟩)
      case hcont =>
      rintro ⟨B5, B6⟩ W5 ⟨h5, h6, h56, hv5, hv6, hbV, hHeld⟩
      refine norm_ (a' := ?_) ?_ ?_
      rotate_left
      · simp only [putAll, Act.put, List.setIfInBounds_toArray, List.set_cons_zero, List.set_cons_succ]
        rfl
      have H5 := hidH h5
      have H6 := hidH h6
      have H56 := hidH h56
      have HV5 := hidH hv5
      have HV6 := hidH hv6
      have HBV := hidH hbV
      clear h5 h6 h56 hv5 hv6 hbV
      refine one_ (i := 20) (N := none) (zqB 22 2097151) rfl rfl (by kernel_rfl) (by decide) (fun K hK => ?_)
      refine zqs 52 (.tmp 5) (.tmp 23) #[.int .i64 xs[0].f0, .int .i64 xs[0].f1, .int .i64 xs[0].f2, .int .i64 o] H5.out rfl rfl (by rfl) rfl rfl (by kernel_rfl) rfl (by rfl) ?_
      intro W6 hb6 hbel6 hfar6
      have H5' := hidH hb6
      have H6' := hidH ((hfar6 _ (Ne.symm H56.out)).trans H6.out)
      have HBV6 := hidH (hbel6 _ _ HBV.out HV5.out)
      have hs6 := TwoS.far hHeld hbel6 hfar6 (Nat.le_trans HDV.out.size HV5.out) (by have := HGL.out; have := HSZ.out; have := HV5.out; have := HDV.out.size; omega) (by have := HRL.out; have := HSZ.out; have := HV5.out; have := HDV.out.size; rw [HAD.out]; show gr ≠ B5; omega) (by have := HRL.out; have := HSZ.out; have := HV5.out; have := HDV.out.size; rw [HAD.out, add_at]; show gr ≠ B5; omega)
      clear hb6 hbel6 hfar6
      refine hK.out _ _ hs6 (fun hHeld => ?_)
      clear hK K hs6
      refine last_ (i := 21) (N := none) (zqB 22 4194303) rfl rfl (by kernel_rfl) (by decide) (fun K hK => ?_)
      refine zqs 52 (.tmp 6) (.tmp 35) #[.int .i64 xs[xs.length - 1].f0, .int .i64 xs[xs.length - 1].f1, .int .i64 xs[xs.length - 1].f2, .int .i64 o] H6'.out rfl rfl (by rfl) rfl rfl (by kernel_rfl) rfl (by rfl) ?_
      intro W7 hb7 hbel7 hfar7
      have H6'' := hidH hb7
      have H5'' := hidH ((hfar7 _ H56.out).trans H5'.out)
      have HBV7 := hidH (hbel7 _ _ HBV6.out HV6.out)
      clear hb7 hbel7 hfar7
      refine hK.out _ _ ?_
      clear hK K
      refine done_ (by kernel_rfl) ?_
      have HB7 := hidH (show Below W.heap.size W W7 from below_step HDV.out HBV7.out)
      have HG7 := hidH (blk_below HG.out HB7.out)
      have HR7 := hidH (Kd.R_below HR.out HB7.out)
      have HX7 := hidH (blk_below HX2.out HB7.out)
      have HF7 := hidH (show W7.heap[B5]? = some (.cells #[.int .i64 xs[0].f0, .int .i64 xs[0].f1, .int .i64 xs[0].f2, .int .i64 o] 52 (0, 0)) from H5''.out)
      have HL7 := hidH (show W7.heap[B6]? = some (.cells #[.int .i64 xs[xs.length - 1].f0, .int .i64 xs[xs.length - 1].f1, .int .i64 xs[xs.length - 1].f2, .int .i64 o] 52 (0, 0)) from H6''.out)
      have HBS := hidH (show w.heap.size + 2 ≤ B5 ∧ w.heap.size + 2 ≤ B6 by have := HSZ.out; have := HDV.out.size; have := HV5.out; have := HV6.out; omega)
      have HFR7 := hidH (((Frame.refl w g (some gr)).below HB.out).below HB7.out)
      clear hHeld H5'' H6'' H5' H6' H5 H6 HV5 HV6 HDV HBV7 HBV6 HBV HX2 HG HR
      go_wp2
      refine start_ (n := 15) (S := fun w' => w'.cell? ⟨g, 0, none⟩ = some (.slice (some ad) xs.length cap)) (ds := [14]) (zqB 15 0) (by kernel_rfl) rfl rfl ((blk_cell HG7.out 0)) (fun hHeld => ?_)
      have HWV := hidH (rfl : W7.drew = W7.drew)
      generalize hD : W7.drew = V7 at hHeld HWV ⊢
      clear HWV
      have HGV := hidH (show V7.heap[g]? = some (.cells #[.slice (some ad) xs.length cap, .int .i64 o] 49 (0, 0)) by rw [← hD]; exact blk_drew HG7.out)
      have HDV7 := hidH (show Below W7.heap.size W7 V7 by rw [← hD]; exact below_drew1 (Below.refl _ _))
      clear hD
      refine zqp 0 (some 36) (zqB 15 1) (by kernel_rfl) (h := ?_)
      refine zqp 1 (some 37) (zqB 15 3) (by kernel_rfl) (h := ?_)
      refine zqp 2 (some 38) (zqB 15 7) (by kernel_rfl) (h := ?_)
      refine zqp 3 (some 39) (zqB 15 15) (by kernel_rfl) (h := ?_)
      refine zqt 4 (some 40) (zqB 15 31) (by kernel_rfl) hHeld (h := ?_)
      refine zqp 5 (some 41) (zqB 15 63) (by kernel_rfl) (h := ?_)
      refine zqp 6 (some 42) (zqB 15 127) (by kernel_rfl) (h := ?_)
      refine zqp 7 (some 43) (zqB 15 255) (by kernel_rfl) (h := ?_)
      refine zqt 8 (some 44) (zqB 15 511) (by kernel_rfl) hHeld (h := ?_)
      refine zqp 9 (some 45) (zqB 15 1023) (by kernel_rfl) (h := ?_)
      refine zqp 10 (some 46) (zqB 15 2047) (by kernel_rfl) (h := ?_)
      refine zqp 11 (some 47) (zqB 15 4095) (by kernel_rfl) (h := ?_)
      refine zqp 12 (some 48) (zqB 15 8191) (by kernel_rfl) (h := ?_)
      refine zqp 13 (some 49) (zqB 15 16383) (by kernel_rfl) (h := ?_)
      refine last_ (i := 14) (N := none) (zqB 15 32767) rfl rfl (by kernel_rfl) (by decide) (fun K hK => ?_)
      refine want_ (by rfl) ?_
      have hc1 := blk_cell HGV.out 0
      have hf1 := blk_frozen HGV.out 0
      go_simp
      refine hK.out _ _ ?_
      clear hK K hc1 hf1
      refine done_ (by kernel_rfl) ?_
      obtain ⟨W8, hW8⟩ : ∃ W8, W8 = V7.setCell ⟨g, 0, none⟩ (.slice (some ad) (xs.length - 1) cap) := ⟨_, rfl⟩
      have HG8 := hidH (show W8.heap[g]? = some (.cells #[.slice (some ad) (xs.length - 1) cap, .int .i64 o] 49 (0, 0)) by rw [hW8]; exact blk_set HGV.out 0 _)
      have HR8 := hidH (show Kd.R k52 52 W8 base (fun _ => True) (.slice (some ad) (xs.length - 1) cap) ((xs.take (xs.length - 1)).map fun e => ⟨e, o⟩) by
        have e_ := Kd.R_take (m := xs.length - 1) (Kd.R_set (Kd.R_below HR7.out HDV7.out) HGV.out (by decide) 0 (.slice (some ad) (xs.length - 1) cap)) (by rw [List.length_map]; omega)
        rw [List.map_take, hW8]
        exact e_)
      have hgl := HGL.out
      have hbs := HBS.out
      have HX8 := hidH (show W8.heap[w.heap.size]? = some (.cells #[.int .i64 0, .int .i64 0, .int .i64 0, .int .i64 0] 52 (0, 0)) by rw [hW8, Below.heap_setCell _ _ _ _ (by show w.heap.size ≠ g; omega)]; exact blk_below HX7.out HDV7.out)
      have HF8 := hidH (show W8.heap[B5]? = some (.cells #[.int .i64 xs[0].f0, .int .i64 xs[0].f1, .int .i64 xs[0].f2, .int .i64 o] 52 (0, 0)) by rw [hW8, Below.heap_setCell _ _ _ _ (by show B5 ≠ g; omega)]; exact blk_below HF7.out HDV7.out)
      have HL8 := hidH (show W8.heap[B6]? = some (.cells #[.int .i64 xs[xs.length - 1].f0, .int .i64 xs[xs.length - 1].f1, .int .i64 xs[xs.length - 1].f2, .int .i64 o] 52 (0, 0)) by rw [hW8, Below.heap_setCell _ _ _ _ (by show B6 ≠ g; omega)]; exact blk_below HL7.out HDV7.out)
      have HFR8 := hidH (show Frame w W8 g (some gr) (some gr) by
        have f := HFR7.out.below HDV7.out
        have hb := (Below.refl 0 V7).setCell (p := ⟨g, 0, none⟩) (Nat.zero_le _) (.slice (some ad) (xs.length - 1) cap)
        rw [← hW8] at hb
        exact ⟨hb.os.trans f.os, hb.tape.trans f.tape, hb.output.trans f.output, Nat.le_trans f.size hb.size, fun k hk h1 h2 => by rw [hW8, Below.heap_setCell _ _ _ _ h1]; exact f.block k hk h1 h2, .inl rfl⟩)
      rw [← hW8]
      clear hW8 hHeld HGV HDV7 HG7 HR7 HX7 HF7 HL7 HFR7 HB7
      have hc8 := blk_cell HG8.out 0
      obtain ⟨x0, x1, x2, x3, -⟩ := zqz4 HF8.out
      by_cases hone : xs.length = 1
      · have y1 : xs.length - 1 = 0 := by omega
        have y2 : ((xs.length - 1 : Nat) : Int) = 0 := by omega
        go_wp2_with ((with_reducible refine gate_store 52 2 56 rfl ?_); refine zqv 52 _ _ 0 4 #[.int .i64 xs[0].f0, .int .i64 xs[0].f1, .int .i64 xs[0].f2, .int .i64 o] HX8.out rfl rfl rfl rfl rfl rfl (by rfl) (by kernel_rfl) (by exact Nat.le_of_ble_eq_true rfl) (by rfl) ?_; intro wE hb1 hbel hfar; have HE := hidH hb1; have HBE := hidH hbel; have HFE := hidH hfar; clear hb1 hbel hfar)
        simp only [Exit.jump]
        refine bodyPost_ret (results_ct rfl _ _ w.heap.size _ _ _ _ rfl HE.out Try.underlying52 rfl (by kernel_rfl)) rfl ?_
        have hA := HAD.out
        subst hA
        have hx1 : xs.take (xs.length - 1) = [] := by rw [y1]; rfl
        have hr := R_only HR8.out (HFE.out gr (by have := HRL.out; omega))
        rw [hx1] at hr
        refine .inr ⟨hpos, [], rfl, ⟨HBG.out, _, (HFE.out g (by omega)).trans HG8.out, HVG.out.symm, hr⟩, ?_, fun _ i _ h => absurd h (Nat.not_lt_zero _), ?_⟩
        · rw [show xs.tail = [] from List.eq_nil_of_length_eq_zero (by rw [List.length_tail]; omega)]
        · rw [HVG.out]
          exact HFR8.out.far HBE.out HFE.out (Nat.le_refl _)
      · have y1 : (((xs.length - 1 : Nat) : Int) = 0) = False := eq_false (by omega)
        have y2 : (xs.length - 1 = 0) = False := eq_false (by omega)
        have y3 : (0 < xs.length - 1) = True := eq_true (by omega)
        go_wp2
        refine start_ (n := 7) (S := fun w' => w'.cell? ⟨g, 0, none⟩ = some (.slice (some ad) (xs.length - 1) cap) ∧ w'.cell? ⟨B6, 0, none⟩ = some (.int .i64 xs[xs.length - 1].f0) ∧ w'.cell? ⟨B6, 1, none⟩ = some (.int .i64 xs[xs.length - 1].f1) ∧ w'.cell? ⟨B6, 2, none⟩ = some (.int .i64 xs[xs.length - 1].f2) ∧ w'.cell? ⟨B6, 3, none⟩ = some (.int .i64 o)) (ds := [6]) (zqB 7 0) (by kernel_rfl) rfl rfl (⟨blk_cell HG8.out 0, blk_cell HL8.out 0, blk_cell HL8.out 1, blk_cell HL8.out 2, blk_cell HL8.out 3⟩) (fun hHeld => ?_)
        generalize hD : W8.drew = V8 at hHeld ⊢
        replace HR8 := hidH (show Kd.R k52 52 V8 base (fun _ => True) (.slice (some ad) (xs.length - 1) cap) ((xs.take (xs.length - 1)).map fun e => ⟨e, o⟩) by rw [← hD]; exact Kd.R_drew HR8.out)
        have HDV8 := hidH (show Below W8.heap.size W8 V8 by rw [← hD]; exact below_drew1 (Below.refl _ _))
        clear hD
        refine zqp 0 (some 57) (zqB 7 1) (by kernel_rfl) (h := ?_)
        refine zqp 1 (some 58) (zqB 7 3) (by kernel_rfl) (h := ?_)
        refine zqp 2 (some 59) (zqB 7 7) (by kernel_rfl) (h := ?_)
        refine zqt 3 (some 60) (zqB 7 15) (by kernel_rfl) hHeld (h := ?_)
        refine zqt 4 (some 61) (zqB 7 31) (by kernel_rfl) hHeld (h := ?_)
        refine zqp 5 (some 62) (zqB 7 63) (by kernel_rfl) (h := ?_)
        refine last_ (i := 6) (N := none) (zqB 7 127) rfl rfl (by kernel_rfl) (by decide) (fun K hK => ?_)
        refine want_ (by rfl) ?_
        refine store_item 52 _ _ rfl rfl (base := base) 0 xs[xs.length - 1] (by show Value.pointer (some ad) = _; rw [HAD.out, add_at]) HAD.out rfl (by kernel_rfl) HR8.out (by rw [List.length_take]; omega) ?_
        intro W9 hr_ hg_
        have HR9 := hidH hr_
        have HG9 := hidH hg_
        clear hr_ hg_
        refine hK.out _ _ ?_
        clear hK K
        refine done_ (by kernel_rfl) ?_
        have hrl := HRL.out
        have hsl : ((xs.take (xs.length - 1)).set 0 xs[xs.length - 1]).length = xs.length - 1 := by rw [List.length_set, List.length_take]; omega
        have hgd : xs.getD (xs.length - 1) default = xs[xs.length - 1] := getD_at (by omega)
        have hda := HeapPure.Down.start (lt := lessE o) (l := xs)
        have htp := HeapPure.take_perm (l := xs) (by omega)
        rw [hgd] at hda htp
        have HT : Hid (TakeInv w base g gr cap B5 o xs W9 0 ((xs.take (xs.length - 1)).set 0 xs[xs.length - 1])) := hidH (by
          have hA := HAD.out
          subst hA
          refine ⟨?_, by rw [hsl]; exact HR9.out, htp, fun h => hda h (by omega), (HFR8.out.below HDV8.out).grown HG9.out, ?_, fun _ => ?_, by omega⟩
          · rw [hsl]; exact blk_grown (blk_below HG8.out HDV8.out) HG9.out (fun he => HNE.out (Option.some.inj he))
          · exact blk_grown (blk_below HX8.out HDV8.out) HG9.out (fun he => by have := Option.some.inj he; omega)
          · exact blk_grown (blk_below HF8.out HDV8.out) HG9.out (fun he => by have := Option.some.inj he; omega))
        have key : ∀ a_ : Act, a_ = { tmps := #[.pointer (some ⟨g, 0, none⟩), undef, .pointer (some ⟨w.heap.size, 0, none⟩), .bool false, .pointer (some ⟨w.heap.size + 1, 0, none⟩), .pointer (some ⟨B5, 0, none⟩), .pointer (some ⟨B6, 0, none⟩), .int .i64 ((0 : Nat) : Int), (a_.tmps.getD 8 undef), (a_.tmps.getD 9 undef), (a_.tmps.getD 10 undef), (a_.tmps.getD 11 undef), (a_.tmps.getD 12 undef), (a_.tmps.getD 13 undef), (a_.tmps.getD 14 undef), (a_.tmps.getD 15 undef), (a_.tmps.getD 16 undef), (a_.tmps.getD 17 undef), (a_.tmps.getD 18 undef), (a_.tmps.getD 19 undef), (a_.tmps.getD 20 undef), (a_.tmps.getD 21 undef), (a_.tmps.getD 22 undef), (a_.tmps.getD 23 undef), (a_.tmps.getD 24 undef), (a_.tmps.getD 25 undef), (a_.tmps.getD 26 undef), (a_.tmps.getD 27 undef), (a_.tmps.getD 28 undef), (a_.tmps.getD 29 undef), (a_.tmps.getD 30 undef), (a_.tmps.getD 31 undef), (a_.tmps.getD 32 undef), (a_.tmps.getD 33 undef), (a_.tmps.getD 34 undef), (a_.tmps.getD 35 undef), (a_.tmps.getD 36 undef), (a_.tmps.getD 37 undef), (a_.tmps.getD 38 undef), (a_.tmps.getD 39 undef), (a_.tmps.getD 40 undef), (a_.tmps.getD 41 undef), (a_.tmps.getD 42 undef), (a_.tmps.getD 43 undef), (a_.tmps.getD 44 undef), (a_.tmps.getD 45 undef), (a_.tmps.getD 46 undef), (a_.tmps.getD 47 undef), (a_.tmps.getD 48 undef), (a_.tmps.getD 49 undef), (a_.tmps.getD 50 undef), (a_.tmps.getD 51 undef), (a_.tmps.getD 52 undef), (a_.tmps.getD 53 undef), (a_.tmps.getD 54 undef), (a_.tmps.getD 55 undef), (a_.tmps.getD 56 undef), (a_.tmps.getD 57 undef), (a_.tmps.getD 58 undef), (a_.tmps.getD 59 undef), (a_.tmps.getD 60 undef), (a_.tmps.getD 61 undef), (a_.tmps.getD 62 undef), (a_.tmps.getD 63 undef), (a_.tmps.getD 64 undef), (a_.tmps.getD 65 undef), (a_.tmps.getD 66 undef), (a_.tmps.getD 67 undef), (a_.tmps.getD 68 undef), (a_.tmps.getD 69 undef), (a_.tmps.getD 70 undef), (a_.tmps.getD 71 undef), (a_.tmps.getD 72 undef), (a_.tmps.getD 73 undef), (a_.tmps.getD 74 undef), (a_.tmps.getD 75 undef), (a_.tmps.getD 76 undef), (a_.tmps.getD 77 undef), (a_.tmps.getD 78 undef), (a_.tmps.getD 79 undef), (a_.tmps.getD 80 undef), (a_.tmps.getD 81 undef), (a_.tmps.getD 82 undef), (a_.tmps.getD 83 undef), (a_.tmps.getD 84 undef), (a_.tmps.getD 85 undef), (a_.tmps.getD 86 undef), (a_.tmps.getD 87 undef), (a_.tmps.getD 88 undef), (a_.tmps.getD 89 undef), (a_.tmps.getD 90 undef), (a_.tmps.getD 91 undef), (a_.tmps.getD 92 undef), (a_.tmps.getD 93 undef), (a_.tmps.getD 94 undef), (a_.tmps.getD 95 undef), (a_.tmps.getD 96 undef), (a_.tmps.getD 97 undef), (a_.tmps.getD 98 undef), (a_.tmps.getD 99 undef), (a_.tmps.getD 100 undef), (a_.tmps.getD 101 undef), (a_.tmps.getD 102 undef), (a_.tmps.getD 103 undef), (a_.tmps.getD 104 undef), (a_.tmps.getD 105 undef), (a_.tmps.getD 106 undef), (a_.tmps.getD 107 undef), (a_.tmps.getD 108 undef), (a_.tmps.getD 109 undef), (a_.tmps.getD 110 undef), (a_.tmps.getD 111 undef), (a_.tmps.getD 112 undef), (a_.tmps.getD 113 undef), (a_.tmps.getD 114 undef), (a_.tmps.getD 115 undef), (a_.tmps.getD 116 undef), (a_.tmps.getD 117 undef), (a_.tmps.getD 118 undef), (a_.tmps.getD 119 undef), (a_.tmps.getD 120 undef), (a_.tmps.getD 121 undef), (a_.tmps.getD 122 undef), (a_.tmps.getD 123 undef), (a_.tmps.getD 124 undef), (a_.tmps.getD 125 undef), (a_.tmps.getD 126 undef), (a_.tmps.getD 127 undef), (a_.tmps.getD 128 undef), (a_.tmps.getD 129 undef), (a_.tmps.getD 130 undef), (a_.tmps.getD 131 undef)], defers := [] } → _ := fun a_ ha => hnext a_ W9 ⟨0, _, B5, B6, fun n => a_.tmps.getD n undef, HT, by rw [hsl]; omega, by rw [hsl]; omega, ha⟩
        go_wp2
        go_step3
        simp only [Exit.then]
        rename_i hKK
        refine hKK _ _ ?_
        exact key _ rfl
    case pass =>
      intro a' wv hJ J' hJ'
      obtain ⟨i, ys, B5, B6, u, HI, hi, hlen2, rfl⟩ := hJ
      obtain ⟨hg', hR', hperm, hdown, hF, hX2, hX5, hn5⟩ := HI.out
      have HN5 := hidH hn5
      rw [← HAD.out] at hg' hR'
      have HG' := hidH hg'
      have HR' := hidH hR'
      have HX2' := hidH hX2
      have HX5' := hidH (hX5 hpos)
      clear hg' hR' hperm hdown hF hX2 hX5 hn5 hc0 HX2 HG HR HB HSZ HW z1 z2 z3 z4 z5 z6 z7 z8 z9
      have hcap2 : ys.length ≤ cap := (Kd.R_reads' HR'.out).2.1
      obtain ⟨k1, hk1⟩ : ∃ k, k = 2 * i + 1 := ⟨_, rfl⟩
      obtain ⟨k2, hk2⟩ : ∃ k, k = 2 * i + 2 := ⟨_, rfl⟩
      have e1 : 2 * (i : Int) + 1 = (k1 : Int) := by omega
      have e2 : 2 * (i : Int) + 2 = (k2 : Int) := by omega
      have b1 : k1 ≤ 400001 := by omega
      have b2 : k2 ≤ 400002 := by omega
      have K1 := hidH hk1
      have K2 := hidH hk2
      clear hk1 hk2
      go_wp2
      go_loopg [8, 71] 3 (fun kq v8 v71 wr => ∃ (m q : Nat), Hid (kq = 3 - q) ∧ v8 = .int .i64 (m : Int) ∧ v71 = .int .i64 (q : Int) ∧ q ≤ 2 ∧ m < ys.length ∧ Hid (HeapPure.Kids (lessE o) ys i q m) ∧ Hid (Below wv.heap.size wv wr))
      case atStart => exact ⟨i, 0, hidH rfl, rfl, rfl, by omega, hi, hidH (HeapPure.Kids.start i), hidH (Below.refl _ _)⟩
      case round =>
        obtain ⟨m, q, HQ, rfl, rfl, hq, hm, HK, HBl⟩ := hrel
        have HG2 := hidH (blk_below HG'.out HBl.out)
        have HR2 := hidH (Kd.R_below HR'.out HBl.out)
        have hm1 : ((m : Int) < (ys.length : Int)) = True := eq_true (by omega)
        have hm2 : ((0 : Int) ≤ (m : Int)) = True := eq_true (by omega)
        have hm3 : (m < ys.length) = True := eq_true hm
        rcases (show q = 0 ∨ q = 1 ∨ q = 2 by omega) with rfl | rfl | rfl
        · by_cases hlt : k1 < ys.length
          · have t1 : decide ((k1 : Int) < (ys.length : Int)) = true := decide_eq_true (by omega)
            have t1n : decide (k1 < ys.length) = true := decide_eq_true hlt
            have q1 : ((k1 : Int) < (ys.length : Int)) = True := eq_true (by omega)
            have q2 : ((0 : Int) ≤ (k1 : Int)) = True := eq_true (by omega)
            have q3 : (k1 < ys.length) = True := eq_true hlt
            have ix := index_0 (.int .i64 (k1 : Int)) (.int .i64 (k2 : Int))
            go_wp2
            cases hl : lessE o ys[k1] ys[m] with
            | true =>
              have HL := hidH hl
              clear hl
              refine start_ (n := 25) (S := TwoS wr g (.slice (some ad) ys.length cap) (ad.add (k1 * 4)) (ad.add (m * 4)) o ys[k1] ys[m]) (ds := []) (zqB 25 0) (by kernel_rfl) rfl rfl ((two_at HG2.out HR2.out k1 m hlt hm).drew) (fun hHeld => ?_)
              refine zqp 0 (some 74) (zqB 25 1) (by kernel_rfl) (h := ?_)
              refine zqp 1 (some 75) (zqB 25 3) (by kernel_rfl) (h := ?_)
              refine zqp 2 (some 76) (zqB 25 7) (by kernel_rfl) (h := ?_)
              refine zqp 3 (some 77) (zqB 25 15) (by kernel_rfl) (h := ?_)
              refine zqt 4 (some 78) (zqB 25 31) (by kernel_rfl) hHeld (h := ?_)
              refine zqp 5 (some 79) (zqB 25 63) (by kernel_rfl) (h := ?_)
              refine zqp 6 (some 80) (zqB 25 127) (by kernel_rfl) (h := ?_)
              refine zqp 7 (some 81) (zqB 25 255) (by kernel_rfl) (h := ?_)
              refine zqp 8 (some 82) (zqB 25 511) (by kernel_rfl) (h := ?_)
              refine zqp 9 (some 83) (zqB 25 1023) (by kernel_rfl) (h := ?_)
              refine zqp 10 (some 84) (zqB 25 2047) (by kernel_rfl) (h := ?_)
              refine zqt 11 (some 85) (zqB 25 4095) (by kernel_rfl) hHeld (h := ?_)
              refine zqp 12 (some 86) (zqB 25 8191) (by kernel_rfl) (h := ?_)
              refine zqp 13 (some 87) (zqB 25 16383) (by kernel_rfl) (h := ?_)
              refine zqt 14 (some 88) (zqB 25 32767) (by kernel_rfl) hHeld (h := ?_)
              refine zqp 15 (some 89) (zqB 25 65535) (by kernel_rfl) (h := ?_)
              refine zqp 16 (some 90) (zqB 25 131071) (by kernel_rfl) (h := ?_)
              refine zqp 17 (some 91) (zqB 25 262143) (by kernel_rfl) (h := ?_)
              refine zqp 18 (some 92) (zqB 25 524287) (by kernel_rfl) (h := ?_)
              refine zqt 19 (some 93) (zqB 25 1048575) (by kernel_rfl) hHeld (h := ?_)
              refine zqp 20 (some 94) (zqB 25 2097151) (by kernel_rfl) (h := ?_)
              refine zqp 21 (some 95) (zqB 25 4194303) (by kernel_rfl) (h := ?_)
              refine zqt 22 (some 96) (zqB 25 8388607) (by kernel_rfl) hHeld (h := ?_)
              refine one_ (i := 23) (N := some 97) (zqB 25 16777215) rfl rfl (by kernel_rfl) (by decide) (fun K hK => ?_)
              refine goesM (.tmp 89) (.tmp 96) "haulier/heap.ahead" _ 41 _ _ _ (by rfl) rfl rfl rfl rfl (ahead_meth _ _ _) ?_
              refine (ahead_r HL.out _).mono ?_
              rintro e w1 ⟨rfl, hb⟩
              refine ⟨_, rfl, ?_⟩
              refine hK.out _ _ (TwoS.on hHeld hb) (fun hHeld => ?_)
              clear hK K hb
              refine norm_ (a' := ?_) ?_ ?_
              rotate_left
              · show Act.put _ _ _ = _
                simp only [Act.put, List.setIfInBounds_toArray, List.set_cons_zero, List.set_cons_succ, i64_w, i32_w]
                rfl
              refine zqp 24 (some 98) (zqB 25 33554431) (by kernel_rfl) (h := ?_)
              refine done_ (by kernel_rfl) ?_
              go_wp2
              go_roundg (3 - 1)
              case measure => have := HQ.out; omega
              case rel => exact ⟨k1, 1, hidH rfl, by go_num, by go_num, by omega, hlt, hidH (HK.out.take (less_strict o) (by omega) (by rw [K1.out]) (by rw [getD_at hlt, getD_at hm]; exact HL.out)), hidH (below_step HBl.out hHeld.below)⟩
            | false =>
              have HL := hidH hl
              clear hl
              refine start_ (n := 25) (S := TwoS wr g (.slice (some ad) ys.length cap) (ad.add (k1 * 4)) (ad.add (m * 4)) o ys[k1] ys[m]) (ds := []) (zqB 25 0) (by kernel_rfl) rfl rfl ((two_at HG2.out HR2.out k1 m hlt hm).drew) (fun hHeld => ?_)
              refine zqp 0 (some 74) (zqB 25 1) (by kernel_rfl) (h := ?_)
              refine zqp 1 (some 75) (zqB 25 3) (by kernel_rfl) (h := ?_)
              refine zqp 2 (some 76) (zqB 25 7) (by kernel_rfl) (h := ?_)
              refine zqp 3 (some 77) (zqB 25 15) (by kernel_rfl) (h := ?_)
              refine zqt 4 (some 78) (zqB 25 31) (by kernel_rfl) hHeld (h := ?_)
              refine zqp 5 (some 79) (zqB 25 63) (by kernel_rfl) (h := ?_)
              refine zqp 6 (some 80) (zqB 25 127) (by kernel_rfl) (h := ?_)
              refine zqp 7 (some 81) (zqB 25 255) (by kernel_rfl) (h := ?_)
              refine zqp 8 (some 82) (zqB 25 511) (by kernel_rfl) (h := ?_)
              refine zqp 9 (some 83) (zqB 25 1023) (by kernel_rfl) (h := ?_)
              refine zqp 10 (some 84) (zqB 25 2047) (by kernel_rfl) (h := ?_)
              refine zqt 11 (some 85) (zqB 25 4095) (by kernel_rfl) hHeld (h := ?_)
              refine zqp 12 (some 86) (zqB 25 8191) (by kernel_rfl) (h := ?_)
              refine zqp 13 (some 87) (zqB 25 16383) (by kernel_rfl) (h := ?_)
              refine zqt 14 (some 88) (zqB 25 32767) (by kernel_rfl) hHeld (h := ?_)
              refine zqp 15 (some 89) (zqB 25 65535) (by kernel_rfl) (h := ?_)
              refine zqp 16 (some 90) (zqB 25 131071) (by kernel_rfl) (h := ?_)
              refine zqp 17 (some 91) (zqB 25 262143) (by kernel_rfl) (h := ?_)
              refine zqp 18 (some 92) (zqB 25 524287) (by kernel_rfl) (h := ?_)
              refine zqt 19 (some 93) (zqB 25 1048575) (by kernel_rfl) hHeld (h := ?_)
              refine zqp 20 (some 94) (zqB 25 2097151) (by kernel_rfl) (h := ?_)
              refine zqp 21 (some 95) (zqB 25 4194303) (by kernel_rfl) (h := ?_)
              refine zqt 22 (some 96) (zqB 25 8388607) (by kernel_rfl) hHeld (h := ?_)
              refine one_ (i := 23) (N := some 97) (zqB 25 16777215) rfl rfl (by kernel_rfl) (by decide) (fun K hK => ?_)
              refine goesM (.tmp 89) (.tmp 96) "haulier/heap.ahead" _ 41 _ _ _ (by rfl) rfl rfl rfl rfl (ahead_meth _ _ _) ?_
              refine (ahead_r HL.out _).mono ?_
              rintro e w1 ⟨rfl, hb⟩
              refine ⟨_, rfl, ?_⟩
              refine hK.out _ _ (TwoS.on hHeld hb) (fun hHeld => ?_)
              clear hK K hb
              refine norm_ (a' := ?_) ?_ ?_
              rotate_left
              · show Act.put _ _ _ = _
                simp only [Act.put, List.setIfInBounds_toArray, List.set_cons_zero, List.set_cons_succ, i64_w, i32_w]
                rfl
              refine zqp 24 (some 98) (zqB 25 33554431) (by kernel_rfl) (h := ?_)
              refine done_ (by kernel_rfl) ?_
              go_wp2
              go_roundg (3 - 1)
              case measure => have := HQ.out; omega
              case rel => exact ⟨m, 1, hidH rfl, by go_num, by go_num, by omega, hm, hidH (HK.out.pass (fun _ => by rw [show 2 * i + 1 + 0 = k1 from by rw [K1.out], getD_at hlt, getD_at hm]; exact HL.out)), hidH (below_step HBl.out hHeld.below)⟩
          · have t1 : decide ((k1 : Int) < (ys.length : Int)) = false := decide_eq_false (by omega)
            have t1n : decide (k1 < ys.length) = false := decide_eq_false hlt
            have ix := index_0 (.int .i64 (k1 : Int)) (.int .i64 (k2 : Int))
            go_wp2
            refine start_ (n := 25) (S := fun w' => w'.cell? ⟨g, 0, none⟩ = some (.slice (some ad) ys.length cap)) (ds := []) (zqB 25 0) (by kernel_rfl) rfl rfl (blk_cell HG2.out 0) (fun hHeld => ?_)
            refine zqp 0 (some 74) (zqB 25 1) (by kernel_rfl) (h := ?_)
            refine zqp 1 (some 75) (zqB 25 3) (by kernel_rfl) (h := ?_)
            refine zqp 2 (some 76) (zqB 25 7) (by kernel_rfl) (h := ?_)
            refine zqp 3 (some 77) (zqB 25 15) (by kernel_rfl) (h := ?_)
            refine zqt 4 (some 78) (zqB 25 31) (by kernel_rfl) hHeld (h := ?_)
            refine zqp 5 (some 79) (zqB 25 63) (by kernel_rfl) (h := ?_)
            refine zqp 6 (some 80) (zqB 25 127) (by kernel_rfl) (h := ?_)
            refine zqp 7 (some 81) (zqB 25 255) (by kernel_rfl) (h := ?_)
            refine zqu 8 (some 82) (zqB 25 511) (by kernel_rfl) (h := ?_)
            refine zqu 9 (some 83) (zqB 25 1023) (by kernel_rfl) (h := ?_)
            refine zqu 10 (some 84) (zqB 25 2047) (by kernel_rfl) (h := ?_)
            refine zqu 11 (some 85) (zqB 25 4095) (by kernel_rfl) (h := ?_)
            refine zqu 12 (some 86) (zqB 25 8191) (by kernel_rfl) (h := ?_)
            refine zqu 13 (some 87) (zqB 25 16383) (by kernel_rfl) (h := ?_)
            refine zqu 14 (some 88) (zqB 25 32767) (by kernel_rfl) (h := ?_)
            refine zqu 15 (some 89) (zqB 25 65535) (by kernel_rfl) (h := ?_)
            refine zqu 16 (some 90) (zqB 25 131071) (by kernel_rfl) (h := ?_)
            refine zqu 17 (some 91) (zqB 25 262143) (by kernel_rfl) (h := ?_)
            refine zqu 18 (some 92) (zqB 25 524287) (by kernel_rfl) (h := ?_)
            refine zqu 19 (some 93) (zqB 25 1048575) (by kernel_rfl) (h := ?_)
            refine zqu 20 (some 94) (zqB 25 2097151) (by kernel_rfl) (h := ?_)
            refine zqu 21 (some 95) (zqB 25 4194303) (by kernel_rfl) (h := ?_)
            refine zqu 22 (some 96) (zqB 25 8388607) (by kernel_rfl) (h := ?_)
            refine zqu 23 (some 97) (zqB 25 16777215) (by kernel_rfl) (h := ?_)
            refine zqp 24 (some 98) (zqB 25 33554431) (by kernel_rfl) (h := ?_)
            refine done_ (by kernel_rfl) ?_
            go_wp2
            go_roundg (3 - 1)
            case measure => have := HQ.out; omega
            case rel => exact ⟨m, 1, hidH rfl, by go_num, by go_num, by omega, hm, hidH (HK.out.pass (fun h => absurd h (by have := K1.out; omega))), hidH (below_drew1 HBl.out)⟩
        · by_cases hlt : k2 < ys.length
          · have t1 : decide ((k2 : Int) < (ys.length : Int)) = true := decide_eq_true (by omega)
            have t1n : decide (k2 < ys.length) = true := decide_eq_true hlt
            have q1 : ((k2 : Int) < (ys.length : Int)) = True := eq_true (by omega)
            have q2 : ((0 : Int) ≤ (k2 : Int)) = True := eq_true (by omega)
            have q3 : (k2 < ys.length) = True := eq_true hlt
            have ix := index_1 (.int .i64 (k1 : Int)) (.int .i64 (k2 : Int))
            go_wp2
            cases hl : lessE o ys[k2] ys[m] with
            | true =>
              have HL := hidH hl
              clear hl
              refine start_ (n := 25) (S := TwoS wr g (.slice (some ad) ys.length cap) (ad.add (k2 * 4)) (ad.add (m * 4)) o ys[k2] ys[m]) (ds := []) (zqB 25 0) (by kernel_rfl) rfl rfl ((two_at HG2.out HR2.out k2 m hlt hm).drew) (fun hHeld => ?_)
              refine zqp 0 (some 74) (zqB 25 1) (by kernel_rfl) (h := ?_)
              refine zqp 1 (some 75) (zqB 25 3) (by kernel_rfl) (h := ?_)
              refine zqp 2 (some 76) (zqB 25 7) (by kernel_rfl) (h := ?_)
              refine zqp 3 (some 77) (zqB 25 15) (by kernel_rfl) (h := ?_)
              refine zqt 4 (some 78) (zqB 25 31) (by kernel_rfl) hHeld (h := ?_)
              refine zqp 5 (some 79) (zqB 25 63) (by kernel_rfl) (h := ?_)
              refine zqp 6 (some 80) (zqB 25 127) (by kernel_rfl) (h := ?_)
              refine zqp 7 (some 81) (zqB 25 255) (by kernel_rfl) (h := ?_)
              refine zqp 8 (some 82) (zqB 25 511) (by kernel_rfl) (h := ?_)
              refine zqp 9 (some 83) (zqB 25 1023) (by kernel_rfl) (h := ?_)
              refine zqp 10 (some 84) (zqB 25 2047) (by kernel_rfl) (h := ?_)
              refine zqt 11 (some 85) (zqB 25 4095) (by kernel_rfl) hHeld (h := ?_)
              refine zqp 12 (some 86) (zqB 25 8191) (by kernel_rfl) (h := ?_)
              refine zqp 13 (some 87) (zqB 25 16383) (by kernel_rfl) (h := ?_)
              refine zqt 14 (some 88) (zqB 25 32767) (by kernel_rfl) hHeld (h := ?_)
              refine zqp 15 (some 89) (zqB 25 65535) (by kernel_rfl) (h := ?_)
              refine zqp 16 (some 90) (zqB 25 131071) (by kernel_rfl) (h := ?_)
              refine zqp 17 (some 91) (zqB 25 262143) (by kernel_rfl) (h := ?_)
              refine zqp 18 (some 92) (zqB 25 524287) (by kernel_rfl) (h := ?_)
              refine zqt 19 (some 93) (zqB 25 1048575) (by kernel_rfl) hHeld (h := ?_)
              refine zqp 20 (some 94) (zqB 25 2097151) (by kernel_rfl) (h := ?_)
              refine zqp 21 (some 95) (zqB 25 4194303) (by kernel_rfl) (h := ?_)
              refine zqt 22 (some 96) (zqB 25 8388607) (by kernel_rfl) hHeld (h := ?_)
              refine one_ (i := 23) (N := some 97) (zqB 25 16777215) rfl rfl (by kernel_rfl) (by decide) (fun K hK => ?_)
              refine goesM (.tmp 89) (.tmp 96) "haulier/heap.ahead" _ 41 _ _ _ (by rfl) rfl rfl rfl rfl (ahead_meth _ _ _) ?_
              refine (ahead_r HL.out _).mono ?_
              rintro e w1 ⟨rfl, hb⟩
              refine ⟨_, rfl, ?_⟩
              refine hK.out _ _ (TwoS.on hHeld hb) (fun hHeld => ?_)
              clear hK K hb
              refine norm_ (a' := ?_) ?_ ?_
              rotate_left
              · show Act.put _ _ _ = _
                simp only [Act.put, List.setIfInBounds_toArray, List.set_cons_zero, List.set_cons_succ, i64_w, i32_w]
                rfl
              refine zqp 24 (some 98) (zqB 25 33554431) (by kernel_rfl) (h := ?_)
              refine done_ (by kernel_rfl) ?_
              go_wp2
              go_roundg (3 - 2)
              case measure => have := HQ.out; omega
              case rel => exact ⟨k2, 2, hidH rfl, by go_num, by go_num, by omega, hlt, hidH (HK.out.take (less_strict o) (by omega) (by rw [K2.out]) (by rw [getD_at hlt, getD_at hm]; exact HL.out)), hidH (below_step HBl.out hHeld.below)⟩
            | false =>
              have HL := hidH hl
              clear hl
              refine start_ (n := 25) (S := TwoS wr g (.slice (some ad) ys.length cap) (ad.add (k2 * 4)) (ad.add (m * 4)) o ys[k2] ys[m]) (ds := []) (zqB 25 0) (by kernel_rfl) rfl rfl ((two_at HG2.out HR2.out k2 m hlt hm).drew) (fun hHeld => ?_)
              refine zqp 0 (some 74) (zqB 25 1) (by kernel_rfl) (h := ?_)
              refine zqp 1 (some 75) (zqB 25 3) (by kernel_rfl) (h := ?_)
              refine zqp 2 (some 76) (zqB 25 7) (by kernel_rfl) (h := ?_)
              refine zqp 3 (some 77) (zqB 25 15) (by kernel_rfl) (h := ?_)
              refine zqt 4 (some 78) (zqB 25 31) (by kernel_rfl) hHeld (h := ?_)
              refine zqp 5 (some 79) (zqB 25 63) (by kernel_rfl) (h := ?_)
              refine zqp 6 (some 80) (zqB 25 127) (by kernel_rfl) (h := ?_)
              refine zqp 7 (some 81) (zqB 25 255) (by kernel_rfl) (h := ?_)
              refine zqp 8 (some 82) (zqB 25 511) (by kernel_rfl) (h := ?_)
              refine zqp 9 (some 83) (zqB 25 1023) (by kernel_rfl) (h := ?_)
              refine zqp 10 (some 84) (zqB 25 2047) (by kernel_rfl) (h := ?_)
              refine zqt 11 (some 85) (zqB 25 4095) (by kernel_rfl) hHeld (h := ?_)
              refine zqp 12 (some 86) (zqB 25 8191) (by kernel_rfl) (h := ?_)
              refine zqp 13 (some 87) (zqB 25 16383) (by kernel_rfl) (h := ?_)
              refine zqt 14 (some 88) (zqB 25 32767) (by kernel_rfl) hHeld (h := ?_)
              refine zqp 15 (some 89) (zqB 25 65535) (by kernel_rfl) (h := ?_)
              refine zqp 16 (some 90) (zqB 25 131071) (by kernel_rfl) (h := ?_)
              refine zqp 17 (some 91) (zqB 25 262143) (by kernel_rfl) (h := ?_)
              refine zqp 18 (some 92) (zqB 25 524287) (by kernel_rfl) (h := ?_)
              refine zqt 19 (some 93) (zqB 25 1048575) (by kernel_rfl) hHeld (h := ?_)
              refine zqp 20 (some 94) (zqB 25 2097151) (by kernel_rfl) (h := ?_)
              refine zqp 21 (some 95) (zqB 25 4194303) (by kernel_rfl) (h := ?_)
              refine zqt 22 (some 96) (zqB 25 8388607) (by kernel_rfl) hHeld (h := ?_)
              refine one_ (i := 23) (N := some 97) (zqB 25 16777215) rfl rfl (by kernel_rfl) (by decide) (fun K hK => ?_)
              refine goesM (.tmp 89) (.tmp 96) "haulier/heap.ahead" _ 41 _ _ _ (by rfl) rfl rfl rfl rfl (ahead_meth _ _ _) ?_
              refine (ahead_r HL.out _).mono ?_
              rintro e w1 ⟨rfl, hb⟩
              refine ⟨_, rfl, ?_⟩
              refine hK.out _ _ (TwoS.on hHeld hb) (fun hHeld => ?_)
              clear hK K hb
              refine norm_ (a' := ?_) ?_ ?_
              rotate_left
              · show Act.put _ _ _ = _
                simp only [Act.put, List.setIfInBounds_toArray, List.set_cons_zero, List.set_cons_succ, i64_w, i32_w]
                rfl
              refine zqp 24 (some 98) (zqB 25 33554431) (by kernel_rfl) (h := ?_)
              refine done_ (by kernel_rfl) ?_
              go_wp2
              go_roundg (3 - 2)
              case measure => have := HQ.out; omega
              case rel => exact ⟨m, 2, hidH rfl, by go_num, by go_num, by omega, hm, hidH (HK.out.pass (fun _ => by rw [show 2 * i + 1 + 1 = k2 from by rw [K2.out], getD_at hlt, getD_at hm]; exact HL.out)), hidH (below_step HBl.out hHeld.below)⟩
          · have t1 : decide ((k2 : Int) < (ys.length : Int)) = false := decide_eq_false (by omega)
            have t1n : decide (k2 < ys.length) = false := decide_eq_false hlt
            have ix := index_1 (.int .i64 (k1 : Int)) (.int .i64 (k2 : Int))
            go_wp2
            refine start_ (n := 25) (S := fun w' => w'.cell? ⟨g, 0, none⟩ = some (.slice (some ad) ys.length cap)) (ds := []) (zqB 25 0) (by kernel_rfl) rfl rfl (blk_cell HG2.out 0) (fun hHeld => ?_)
            refine zqp 0 (some 74) (zqB 25 1) (by kernel_rfl) (h := ?_)
            refine zqp 1 (some 75) (zqB 25 3) (by kernel_rfl) (h := ?_)
            refine zqp 2 (some 76) (zqB 25 7) (by kernel_rfl) (h := ?_)
            refine zqp 3 (some 77) (zqB 25 15) (by kernel_rfl) (h := ?_)
            refine zqt 4 (some 78) (zqB 25 31) (by kernel_rfl) hHeld (h := ?_)
            refine zqp 5 (some 79) (zqB 25 63) (by kernel_rfl) (h := ?_)
            refine zqp 6 (some 80) (zqB 25 127) (by kernel_rfl) (h := ?_)
            refine zqp 7 (some 81) (zqB 25 255) (by kernel_rfl) (h := ?_)
            refine zqu 8 (some 82) (zqB 25 511) (by kernel_rfl) (h := ?_)
            refine zqu 9 (some 83) (zqB 25 1023) (by kernel_rfl) (h := ?_)
            refine zqu 10 (some 84) (zqB 25 2047) (by kernel_rfl) (h := ?_)
            refine zqu 11 (some 85) (zqB 25 4095) (by kernel_rfl) (h := ?_)
            refine zqu 12 (some 86) (zqB 25 8191) (by kernel_rfl) (h := ?_)
            refine zqu 13 (some 87) (zqB 25 16383) (by kernel_rfl) (h := ?_)
            refine zqu 14 (some 88) (zqB 25 32767) (by kernel_rfl) (h := ?_)
            refine zqu 15 (some 89) (zqB 25 65535) (by kernel_rfl) (h := ?_)
            refine zqu 16 (some 90) (zqB 25 131071) (by kernel_rfl) (h := ?_)
            refine zqu 17 (some 91) (zqB 25 262143) (by kernel_rfl) (h := ?_)
            refine zqu 18 (some 92) (zqB 25 524287) (by kernel_rfl) (h := ?_)
            refine zqu 19 (some 93) (zqB 25 1048575) (by kernel_rfl) (h := ?_)
            refine zqu 20 (some 94) (zqB 25 2097151) (by kernel_rfl) (h := ?_)
            refine zqu 21 (some 95) (zqB 25 4194303) (by kernel_rfl) (h := ?_)
            refine zqu 22 (some 96) (zqB 25 8388607) (by kernel_rfl) (h := ?_)
            refine zqu 23 (some 97) (zqB 25 16777215) (by kernel_rfl) (h := ?_)
            refine zqp 24 (some 98) (zqB 25 33554431) (by kernel_rfl) (h := ?_)
            refine done_ (by kernel_rfl) ?_
            go_wp2
            go_roundg (3 - 2)
            case measure => have := HQ.out; omega
            case rel => exact ⟨m, 2, hidH rfl, by go_num, by go_num, by omega, hm, hidH (HK.out.pass (fun h => absurd h (by have := K2.out; omega))), hidH (below_drew1 HBl.out)⟩
        · have HX3 := hidH (blk_below HX2'.out HBl.out)
          have HX6 := hidH (blk_below HX5'.out HBl.out)
          obtain ⟨x0, x1, x2, x3, -⟩ := zqz4 HX6.out
          have hrl := HRL.out
          have hgl := HGL.out
          by_cases hmi : m = i
          · have hmt : decide ((m : Int) = (i : Int)) = true := decide_eq_true (by omega)
            have hme : ((m : Int) = (i : Int)) = True := eq_true (by omega)
            have hmf : (m = i) = True := eq_true hmi
            go_wp2_with ((with_reducible refine gate_store 52 2 131 rfl ?_); refine zqv 52 _ _ 0 4 #[.int .i64 xs[0].f0, .int .i64 xs[0].f1, .int .i64 xs[0].f2, .int .i64 o] HX3.out rfl rfl rfl rfl rfl rfl (by rfl) (by kernel_rfl) (by exact Nat.le_of_ble_eq_true rfl) (by rfl) ?_; intro wE hb1 hbel hfar; have HE := hidH hb1; have HBE := hidH hbel; have HFE := hidH hfar; clear hb1 hbel hfar)
            simp only [Exit.jump]
            refine bodyPost_ret (results_ct rfl _ _ w.heap.size _ _ _ _ rfl HE.out Try.underlying52 rfl (by kernel_rfl)) rfl ?_
            have hA := HAD.out
            subst hA
            obtain ⟨-, -, hperm, hdown, hF, -, -, -⟩ := HI.out
            refine .inr ⟨hpos, ys, rfl, ⟨HBG.out, _, (HFE.out g (by omega)).trans HG2.out, HVG.out.symm, R_only HR2.out (HFE.out gr (by omega))⟩, hperm, fun h => HeapPure.Kids.done (by have hk := HK.out; rwa [hmi] at hk) (hdown h), ?_⟩
            rw [HVG.out]
            exact (hF.below HBl.out).far HBE.out HFE.out (Nat.le_refl _)
          · have hmt : decide ((m : Int) = (i : Int)) = false := decide_eq_false (by omega)
            have hme : ((m : Int) = (i : Int)) = False := eq_false (by omega)
            have hmf : (m = i) = False := eq_false hmi
            have q1 : ((i : Int) < (ys.length : Int)) = True := eq_true (by omega)
            have q2 : ((0 : Int) ≤ (i : Int)) = True := eq_true (by omega)
            have q3 : (i < ys.length) = True := eq_true hi
            go_wp2
            refine start_ (n := 28) (S := TwoS wr g (.slice (some ad) ys.length cap) (ad.add (i * 4)) (ad.add (m * 4)) o ys[i] ys[m]) (ds := [25, 27]) (zqB 28 0) (by kernel_rfl) rfl rfl ((two_at HG2.out HR2.out i m hi hm).drew) (fun hHeld => ?_)
            generalize hD : wr.drew = V at hHeld ⊢
            replace HR2 := hidH (show Kd.R k52 52 V base (fun _ => True) (.slice (some ad) ys.length cap) (ys.map fun e => ⟨e, o⟩) by rw [← hD]; exact Kd.R_drew HR2.out)
            have HDV := hidH (show Below wr.heap.size wr V by rw [← hD]; exact below_drew1 (Below.refl _ _))
            clear hD
            refine zqp 0 (some 104) (zqB 28 1) (by kernel_rfl) (h := ?_)
            refine zqp 1 (some 105) (zqB 28 3) (by kernel_rfl) (h := ?_)
            refine zqp 2 (some 106) (zqB 28 7) (by kernel_rfl) (h := ?_)
            refine zqt 3 (some 107) (zqB 28 15) (by kernel_rfl) hHeld (h := ?_)
            refine zqp 4 (some 108) (zqB 28 31) (by kernel_rfl) (h := ?_)
            refine zqp 5 (some 109) (zqB 28 63) (by kernel_rfl) (h := ?_)
            refine zqp 6 (some 110) (zqB 28 127) (by kernel_rfl) (h := ?_)
            refine zqp 7 (some 111) (zqB 28 255) (by kernel_rfl) (h := ?_)
            refine zqt 8 (some 112) (zqB 28 511) (by kernel_rfl) hHeld (h := ?_)
            refine zqp 9 (some 113) (zqB 28 1023) (by kernel_rfl) (h := ?_)
            refine zqp 10 (some 114) (zqB 28 2047) (by kernel_rfl) (h := ?_)
            refine zqp 11 (some 115) (zqB 28 4095) (by kernel_rfl) (h := ?_)
            refine zqp 12 (some 116) (zqB 28 8191) (by kernel_rfl) (h := ?_)
            refine zqt 13 (some 117) (zqB 28 16383) (by kernel_rfl) hHeld (h := ?_)
            refine zqp 14 (some 118) (zqB 28 32767) (by kernel_rfl) (h := ?_)
            refine zqp 15 (some 119) (zqB 28 65535) (by kernel_rfl) (h := ?_)
            refine zqt 16 (some 120) (zqB 28 131071) (by kernel_rfl) hHeld (h := ?_)
            refine zqp 17 (some 121) (zqB 28 262143) (by kernel_rfl) (h := ?_)
            refine zqp 18 (some 122) (zqB 28 524287) (by kernel_rfl) (h := ?_)
            refine zqp 19 (some 123) (zqB 28 1048575) (by kernel_rfl) (h := ?_)
            refine zqt 20 (some 124) (zqB 28 2097151) (by kernel_rfl) hHeld (h := ?_)
            refine zqp 21 (some 125) (zqB 28 4194303) (by kernel_rfl) (h := ?_)
            refine zqp 22 (some 126) (zqB 28 8388607) (by kernel_rfl) (h := ?_)
            refine zqt 23 (some 127) (zqB 28 16777215) (by kernel_rfl) hHeld (h := ?_)
            refine zqp 24 (some 128) (zqB 28 33554431) (by kernel_rfl) (h := ?_)
            refine last_ (i := 25) (N := none) (zqB 28 67108863) rfl rfl (by kernel_rfl) (by decide) (fun K hK => ?_)
            refine want_ (by rfl) ?_
            refine store_item 52 _ _ rfl rfl (base := base) i ys[m] rfl HAD.out rfl (by kernel_rfl) HR2.out (by simpa using hi) ?_
            intro W_ hr_ hg_
            have HR6 := hidH hr_
            have HG6 := hidH hg_
            clear hr_ hg_
            refine hK.out _ _ ?_
            clear hK K
            refine zqp 26 (some 129) (zqB 28 134217727) (by kernel_rfl) (h := ?_)
            refine last_ (i := 27) (N := none) (zqB 28 268435455) rfl rfl (by kernel_rfl) (by decide) (fun K hK => ?_)
            refine want_ (by rfl) ?_
            refine store_item 52 _ _ rfl rfl (base := base) m ys[i] rfl HAD.out rfl (by kernel_rfl) HR6.out (by simpa using hm) ?_
            intro W_ hr_ hg_
            have HR7 := hidH hr_
            have HG7 := hidH hg_
            clear hr_ hg_
            refine hK.out _ _ ?_
            clear hK K
            refine done_ (by kernel_rfl) ?_
            go_wp2
            go_step3
            refine ⟨rfl, ?_⟩
            have hsw : (ys.set i ys[m]).set m ys[i] = HeapPure.swap ys i m := by unfold HeapPure.swap; rw [getD_at hi, getD_at hm]
            have hr7 := HR7.out
            rw [hsw] at hr7
            have hgW := blk_grown (blk_grown (blk_below HG2.out HDV.out) HG6.out (fun he => HNE.out (Option.some.inj he))) HG7.out (fun he => HNE.out (Option.some.inj he))
            have hx2 := blk_grown (blk_grown (blk_below HX3.out HDV.out) HG6.out (fun he => by have := Option.some.inj he; omega)) HG7.out (fun he => by have := Option.some.inj he; omega)
            have h5r := HN5.out
            have hx5 := blk_grown (blk_grown (blk_below HX6.out HDV.out) HG6.out (fun he => h5r (Option.some.inj he))) HG7.out (fun he => h5r (Option.some.inj he))
            obtain ⟨-, -, hperm, hdown, hF, -, -, -⟩ := HI.out
            have hFW := (((hF.below HBl.out).below HDV.out).grown HG6.out).grown HG7.out
            have hlt := HK.out.deep hmi
            have HT : Hid (TakeInv w base g gr cap B5 o xs W_ m (HeapPure.swap ys i m)) := hidH (by
              have hA := HAD.out
              subst hA
              exact ⟨by rw [HeapPure.swap_length]; exact hgW, by rw [HeapPure.swap_length]; exact hr7, (HeapPure.swap_perm hi hm).trans hperm, fun h => HK.out.down (less_strict o) hmi hm (hdown h), hFW, hx2, fun _ => hx5, h5r⟩)
            have key : ∀ a_ : Act, a_ = { tmps := #[.pointer (some ⟨g, 0, none⟩), undef, .pointer (some ⟨w.heap.size, 0, none⟩), .bool false, .pointer (some ⟨w.heap.size + 1, 0, none⟩), .pointer (some ⟨B5, 0, none⟩), .pointer (some ⟨B6, 0, none⟩), .int .i64 (m : Int), (a_.tmps.getD 8 undef), (a_.tmps.getD 9 undef), (a_.tmps.getD 10 undef), (a_.tmps.getD 11 undef), (a_.tmps.getD 12 undef), (a_.tmps.getD 13 undef), (a_.tmps.getD 14 undef), (a_.tmps.getD 15 undef), (a_.tmps.getD 16 undef), (a_.tmps.getD 17 undef), (a_.tmps.getD 18 undef), (a_.tmps.getD 19 undef), (a_.tmps.getD 20 undef), (a_.tmps.getD 21 undef), (a_.tmps.getD 22 undef), (a_.tmps.getD 23 undef), (a_.tmps.getD 24 undef), (a_.tmps.getD 25 undef), (a_.tmps.getD 26 undef), (a_.tmps.getD 27 undef), (a_.tmps.getD 28 undef), (a_.tmps.getD 29 undef), (a_.tmps.getD 30 undef), (a_.tmps.getD 31 undef), (a_.tmps.getD 32 undef), (a_.tmps.getD 33 undef), (a_.tmps.getD 34 undef), (a_.tmps.getD 35 undef), (a_.tmps.getD 36 undef), (a_.tmps.getD 37 undef), (a_.tmps.getD 38 undef), (a_.tmps.getD 39 undef), (a_.tmps.getD 40 undef), (a_.tmps.getD 41 undef), (a_.tmps.getD 42 undef), (a_.tmps.getD 43 undef), (a_.tmps.getD 44 undef), (a_.tmps.getD 45 undef), (a_.tmps.getD 46 undef), (a_.tmps.getD 47 undef), (a_.tmps.getD 48 undef), (a_.tmps.getD 49 undef), (a_.tmps.getD 50 undef), (a_.tmps.getD 51 undef), (a_.tmps.getD 52 undef), (a_.tmps.getD 53 undef), (a_.tmps.getD 54 undef), (a_.tmps.getD 55 undef), (a_.tmps.getD 56 undef), (a_.tmps.getD 57 undef), (a_.tmps.getD 58 undef), (a_.tmps.getD 59 undef), (a_.tmps.getD 60 undef), (a_.tmps.getD 61 undef), (a_.tmps.getD 62 undef), (a_.tmps.getD 63 undef), (a_.tmps.getD 64 undef), (a_.tmps.getD 65 undef), (a_.tmps.getD 66 undef), (a_.tmps.getD 67 undef), (a_.tmps.getD 68 undef), (a_.tmps.getD 69 undef), (a_.tmps.getD 70 undef), (a_.tmps.getD 71 undef), (a_.tmps.getD 72 undef), (a_.tmps.getD 73 undef), (a_.tmps.getD 74 undef), (a_.tmps.getD 75 undef), (a_.tmps.getD 76 undef), (a_.tmps.getD 77 undef), (a_.tmps.getD 78 undef), (a_.tmps.getD 79 undef), (a_.tmps.getD 80 undef), (a_.tmps.getD 81 undef), (a_.tmps.getD 82 undef), (a_.tmps.getD 83 undef), (a_.tmps.getD 84 undef), (a_.tmps.getD 85 undef), (a_.tmps.getD 86 undef), (a_.tmps.getD 87 undef), (a_.tmps.getD 88 undef), (a_.tmps.getD 89 undef), (a_.tmps.getD 90 undef), (a_.tmps.getD 91 undef), (a_.tmps.getD 92 undef), (a_.tmps.getD 93 undef), (a_.tmps.getD 94 undef), (a_.tmps.getD 95 undef), (a_.tmps.getD 96 undef), (a_.tmps.getD 97 undef), (a_.tmps.getD 98 undef), (a_.tmps.getD 99 undef), (a_.tmps.getD 100 undef), (a_.tmps.getD 101 undef), (a_.tmps.getD 102 undef), (a_.tmps.getD 103 undef), (a_.tmps.getD 104 undef), (a_.tmps.getD 105 undef), (a_.tmps.getD 106 undef), (a_.tmps.getD 107 undef), (a_.tmps.getD 108 undef), (a_.tmps.getD 109 undef), (a_.tmps.getD 110 undef), (a_.tmps.getD 111 undef), (a_.tmps.getD 112 undef), (a_.tmps.getD 113 undef), (a_.tmps.getD 114 undef), (a_.tmps.getD 115 undef), (a_.tmps.getD 116 undef), (a_.tmps.getD 117 undef), (a_.tmps.getD 118 undef), (a_.tmps.getD 119 undef), (a_.tmps.getD 120 undef), (a_.tmps.getD 121 undef), (a_.tmps.getD 122 undef), (a_.tmps.getD 123 undef), (a_.tmps.getD 124 undef), (a_.tmps.getD 125 undef), (a_.tmps.getD 126 undef), (a_.tmps.getD 127 undef), (a_.tmps.getD 128 undef), (a_.tmps.getD 129 undef), (a_.tmps.getD 130 undef), (a_.tmps.getD 131 undef)], defers := [] } → J' a_ W_ := fun a_ ha => hJ' a_ W_ ⟨m, HeapPure.swap ys i m, B5, B6, fun n => a_.tmps.getD n undef, HT, by rw [HeapPure.swap_length]; exact hm, by rw [HeapPure.swap_length]; exact hlen2, ha⟩ (by rw [ha]; show 200000 - ((m : Int)).toNat < 200000 - ((i : Int)).toNat; omega)
            exact key _ rfl
  · have hx : xs = [] := List.eq_nil_of_length_eq_zero (by omega)
    subst hx
    have hW := HW.out
    subst hW
    obtain ⟨A, cap, rfl⟩ := Kd.R_slice hR
    have hc0 := blk_cell HG.out 0
    obtain ⟨x0, x1, x2, x3, f0, f1, f2, f3⟩ := zqz4 (show ((w.alloc (.cells #[.int .i64 0, .int .i64 0, .int .i64 0, .int .i64 0] 52)).alloc (.cells #[.int .i64 0, .int .i64 0, .int .i64 0, .int .i64 0] 52)).heap[w.heap.size + 1]? = _ by have e := blk_new (w.alloc (.cells #[.int .i64 0, .int .i64 0, .int .i64 0, .int .i64 0] 52)) (.cells #[.int .i64 0, .int .i64 0, .int .i64 0, .int .i64 0] 52); rwa [World.size_alloc] at e)
    go_enter Try.func22, Try.ntmps22
    go_wp2
    refine scope_once 0 (fun _ _ => False) (fun _ _ => 0) rfl ?_ (fun _ _ h => h.elim)
    intro J' _
    go_wp2
    simp only [Exit.jump]
    refine bodyPost_ret (results_ct rfl _ _ w.heap.size _ _ _ _ rfl (blk_alloc (blk_new _ _) _) Try.underlying52 rfl (by kernel_rfl)) rfl ?_
    exact .inl ⟨by simp, rfl, ⟨HBG.out, _, HG.out, HVR.out, HR.out⟩, (Frame.refl w g r).below HB.out⟩

end Go.Proofs.Ytjlfejgblhgceaa.PB
