-- Printed for this claim by wip/tools/xprint.py over the kit's print; the contracts marked BY HAND are this session's own.
import Derived.Test.YtblpfjocmbppbaaPAx0
import Derived.Test.YtblpfjocmbppbaaPAx3
import Derived.Test.YtblpfjocmbppbaaPAx4
namespace Go.Proofs.Ytblpfjocmbppbaa.PA
open Go.RowKit Go.Proofs.YtblpfjocmbppbaaW.PrintWords Go.Proofs.YtblpfjocmbppbaaW.PrintLast Go.Proofs.YtblpfjocmbppbaaW.PrintMore
attribute [local go_sem] max2_int min2_int max_two min_two max_three min_three max_four min_four   -- for this text's walks alone
set_option linter.unusedVariables false
set_option linter.unusedSimpArgs false

/-! ### tour_Split: function 11, BY HAND -/
/-- What a tour's stops are told as, from t on. -/
def splitEnd (order : Bool) (acc : List (List Int)) : List (List Int) × Int := if order then ([], 8) else (acc, 0)
def splitGo : Nat → List Int → Bool → Int → List (List Int) → List (List Int) × Int
  | 0, _, _, _, _ => ([], 0)
  | q + 1, t, order, last, acc =>
    if idx0 t < 0 then splitEnd (order || decide (t.headD 0 ≤ last)) (acc ++ [t])
    else if idx0 t = 0 ∨ t.getD (idx0 t).toNat 0 < 0 ∨ idx0 t = (t.length : Int) - 1 then ([], 2)
    else splitGo q (t.drop ((idx0 t).toNat + 1)) (order || decide (t.headD 0 ≤ last)) (t.headD 0) (acc ++ [t.take (idx0 t).toNat])
def tour_Split.f (l0 : List Int) : Option (List (List Int) × Int) := if l0.length ≤ 1000000 then some (if l0 = [] then ([], 0) else splitGo l0.length l0 false 0 []) else none
theorem want_ {P : Program} {ops : Array Oper} {oi : Oper} {a : Act} {w : World} {K : Act → World → Prop} {Q : Exit → Act → World → Prop} {N : Option Tmp} (hw : Region.wanted oi (yielded ops a.tmps) = true) (h : Oper.wp P oi a w K Q) : if Region.wanted oi (yielded ops a.tmps) = true then Oper.wp P oi a w K Q else K (a.put N undef) w := by
  rw [if_pos hw]
  exact h
theorem splitGo_on {q i : Nat} {t : List Int} {o : Bool} {l : Int} {acc : List (List Int)} (h1 : i < t.length) (hE : idx0 t = (i : Int)) (h0 : i ≠ 0) (h2 : ¬ t[i] < 0) (h3 : i + 1 < t.length) :
    splitGo (q + 1) t o l acc = splitGo q (t.drop (i + 1)) (o || decide (t.headD 0 ≤ l)) (t.headD 0) (acc ++ [t.take i]) := by
  have e : (idx0 t).toNat = i := by rw [hE]; rfl
  have g : t.getD i 0 = t[i] := by rw [List.getD_eq_getElem?_getD, List.getElem?_eq_getElem h1]; rfl
  rw [splitGo, if_neg (by rw [hE]; omega), e, g, hE, if_neg (by
    intro h
    rcases h with h | h | h
    · omega
    · exact h2 h
    · omega)]
theorem splitGo_bad {q i : Nat} {t : List Int} {o : Bool} {l : Int} {acc : List (List Int)} (h1 : i < t.length) (hE : idx0 t = (i : Int)) (h : i = 0 ∨ t[i] < 0 ∨ i + 1 = t.length) : splitGo (q + 1) t o l acc = ([], 2) := by
  have e : (idx0 t).toNat = i := by rw [hE]; rfl
  have g : t.getD i 0 = t[i] := by rw [List.getD_eq_getElem?_getD, List.getElem?_eq_getElem h1]; rfl
  rw [splitGo, if_neg (by rw [hE]; omega), e, g, hE, if_pos (by
    rcases h with h | h | h
    · left; omega
    · exact Or.inr (Or.inl h)
    · right; right; omega)]
theorem nb_ {α : Type} {d : Kd α} {e : Nat} {w : World} {base b : Nat} {v : Value} {xs : List α} (h : Kd.N d e w base (fun k_ => b ≤ k_) v xs) : Kd.N d e w base (fun k_ => True ∧ b ≤ k_ ∧ True) v xs := Kd.N_mono h (fun _ hk => ⟨trivial, hk, trivial⟩)
theorem add_0 (a : Addr) : a.add 0 = a := by
  cases a; rfl
theorem idx0_cases (t : List Int) : idx0 t = -1 ∨ ∃ i, ∃ h : i < t.length, idx0 t = (i : Int) ∧ t[i] ≤ 0 := by
  unfold idx0
  cases h : t.findIdx? (fun x => decide (x ≤ 0)) with
  | none => exact Or.inl rfl
  | some i =>
    rw [List.findIdx?_eq_some_iff_getElem] at h
    obtain ⟨h1, h2, -⟩ := h
    exact Or.inr ⟨i, h1, rfl, of_decide_eq_true h2⟩
theorem cut_foot {V : World} {gc : Nat} {ad : Addr} {t : List Int} {m : Nat} (h : Kd.F (Kd.int .i64) V (fun k_ => k_ = gc) (some ad) t.length t) (hm : m ≤ t.length) : Kd.FK (Kd.slice 3 (Kd.int .i64)) V (fun k_ => k_ = gc) (t.take m) [.slice (some ad) m m] := by
  have hl : (t.take m).length = m := by rw [List.length_take]; omega
  have h2 := Kd.F_take h hm
  rw [hl] at h2
  exact Foot.imp h2 (fun W' hC => ⟨some ad, m, by rw [hl], by rw [hl]; exact Nat.le_refl _, by rw [hl]; exact hC⟩)
set_option maxHeartbeats 16000000 in
set_option maxRecDepth 100000 in
theorem split_x (A0 : Option Addr) (c0 : Nat) (l0 : List Int) (r1 : List (List Int)) (r2 : Int) (w : World) (hr0 : Kd.C (Kd.int .i64) w A0 l0.length l0) (hc0 : l0.length ≤ c0) (hne : 0 < l0.length) (hm : l0.length ≤ 1000000) (hsp : splitGo l0.length l0 false 0 [] = (r1, r2)) :
    Calls Try.prog 11 #[.slice A0 l0.length c0] w fun e w' => ∃ v0_ : Value, e = .returned (.tuple #[.agg #[v0_], .int .i64 r2]) ∧ Kd.N (Kd.slice 3 (Kd.int .i64)) 28 w' w.heap.size (fun k_ => w.heap.size ≤ k_) v0_ r1 ∧ Below w.heap.size w w' := by
  have hz : ¬ (l0.length : Int) = 0 := by omega
  have hz2 : ((l0.length : Int) == 0) = false := beq_eq_false_iff_ne.2 hz
  have HSP := hidJ hsp
  have HR0 := hidJ hr0
  clear hsp hr0
  go_enter Try.func11, Try.ntmps11
  go_wp2
  refine wp_scope_straight ?_
  obtain ⟨gr, hgr⟩ : ∃ g, g = w.heap.size := ⟨_, rfl⟩
  have hA0 := blk_new w (.cells #[.slice none 0 0] 24)
  have hBA := below_alloc (Below.refl w.heap.size w) (.cells #[.slice none 0 0] 24)
  rw [← hgr] at hA0 ⊢
  have HGR0 := hidJ hA0
  have HBA := hidJ hBA
  have HGRE := hidJ hgr
  clear hA0 hBA hgr
  generalize w.alloc (.cells #[.slice none 0 0] 24) = wa at HGR0 HBA ⊢
  have HCL := hidJ (show slices_Clone_int_int.f l0 = some l0 by unfold slices_Clone_int_int.f; rw [if_pos hne]; show (if ([] : List Int).length + l0.length < 17592186044416 then some ([] ++ l0) else none) = _; rw [if_pos (by simp; omega)]; rfl)
  go_wp2_with (go_at_call 15; (with_reducible refine (slices_Clone_int_int.calls _ _ l0 l0 _ (Kd.C_below HR0.out (below_alloc HBA.out _)) hc0 HCL.out).mono ?_); rintro e_ wc ⟨v, rfl, h_1, h_2⟩; have HRC := hidJ h_1; have HBC := hidJ h_2; clear h_1 h_2)
  obtain ⟨gp, hgp⟩ : ∃ g, g = wa.heap.size := ⟨_, rfl⟩
  rw [← hgp]
  obtain ⟨gc, cc, hv, hgc1, hgc2, hgc3⟩ := Kd.R_form HRC.out hne
  subst hv
  rw [World.size_alloc] at hgc1
  have HGR := hidJ (blk_below (blk_alloc HGR0.out _) HBC.out)
  have HGP := hidJ (blk_below (blk_new wa _) HBC.out)
  rw [← hgp] at HGP
  have HB := hidJ (below_step (below_alloc HBA.out _) HBC.out)
  have hgrl := blk_lt HGR0.out
  have hwgc := below_size HBA.out
  have HNE := hidJ (show w.heap.size ≤ gc ∧ gc ≠ gp ∧ gc ≠ gr from ⟨by omega, by omega, by omega⟩)
  clear hwgc
  have HPR := hidJ (show gp ≠ gr from by omega)
  have HGP0 := hidJ (show w.heap.size ≤ gp from by rw [hgp]; exact below_size HBA.out)
  have HGR0' := hidJ (show w.heap.size ≤ gr from by rw [HGRE.out]; exact Nat.le_refl _)
  have HF := hidJ (Kd.R_F (⟨fun k hk => (Option.some.inj hk).symm, HRC.out.2.imp_ (fun _ _ hp => hp)⟩ : Kd.R (Kd.int .i64) 3 wc _ (fun k_ => k_ = gc) (.slice (some ⟨gc, 0, none⟩) l0.length cc) l0))
  have hcc := (Kd.R_reads' HRC.out).2.1
  have HCB := hidJ hgc3
  clear hgc1 hgc2 hgc3 hgp HRC HBC HGR0 HBA HCL hgrl
  refine wp_label ?_
  go_wp2
  go_loopg [0, 5, 6] l0.length (fun kx v0 v5 v6 wr => ∃ (t : List Int) (q c : Nat) (ad : Addr) (order : Bool) (last : Int) (acc : List (List Int)) (vR : Value), v0 = .slice (some ad) t.length c ∧ v5 = .bool order ∧ v6 = .int .i64 last ∧ 0 < t.length ∧ t.length ≤ c ∧ t.length ≤ q ∧ q ≤ kx ∧ acc.length + t.length ≤ 1000000 ∧
      Hid (splitGo q t order last acc = (r1, r2)) ∧ Hid (wr.heap[gp]? = some (.cells #[vR] 24 (0, 0))) ∧ Hid (wr.heap[gr]? = some (.cells #[.slice none 0 0] 24 (0, 0))) ∧ Hid (Kd.N (Kd.slice 3 (Kd.int .i64)) 28 wr w.heap.size (fun k_ => w.heap.size ≤ k_ ∧ k_ ≠ gp ∧ k_ ≠ gr) vR acc) ∧ Hid (Kd.F (Kd.int .i64) wr (fun k_ => k_ = gc) (some ad) t.length t) ∧ Hid (∃ cs_, wr.heap[gc]? = some (.cells cs_ 3 (0, 0))) ∧ Hid (Below w.heap.size w wr))
  case atStart => exact ⟨l0, l0.length, cc, ⟨gc, 0, none⟩, false, 0, [], .slice none 0 0, rfl, rfl, rfl, hne, hcc, Nat.le_refl _, Nat.le_refl _, by simpa using hm, HSP, HGP, HGR, hidJ (Kd.N_nil _ _ _ _ _), HF, HCB, HB⟩
  case round =>
    clear HGP HGR HF HCB HB hcc HSP
    obtain ⟨t, q, c, ad, order, last, acc, vR, rfl, rfl, rfl, hpos, hcap, htq, hqk, hac, HG, HGP, HGR, HN, HF, HCB, HB⟩ := hrel
    obtain ⟨q, rfl⟩ : ∃ q', q = q' + 1 := ⟨q - 1, by omega⟩
    have hmax := Kd.F_max HF.out
    have hpos' : (0 : Int) < (t.length : Int) := by omega
    obtain ⟨x0, hx0e⟩ : ∃ x, x = t[0]'hpos := ⟨_, rfl⟩
    have hx0_ : wr.cell? ad = some (.int .i64 x0) := by
      obtain ⟨ad2, e2, h2⟩ := int_at (Kd.F_now HF.out) 0 hpos
      obtain rfl := Option.some.inj e2
      rw [add_0] at h2
      rw [hx0e]; exact h2
    have hhd : t.headD 0 = x0 := by
      rw [hx0e]; cases t with
      | nil => simp at hpos
      | cons y l => rfl
    have HHD := hidJ hhd
    have HX0 := hidJ hx0e
    clear hhd hx0e
    rcases idx0_cases t with hE | ⟨i, hi, hE, hle⟩
    · have HIX := hidJ (show slices_IndexFunc_int_int.f t 0 = some (-1) by unfold slices_IndexFunc_int_int.f; rw [hE])
      have HCUT := hidJ (fun V (h : Kd.F (Kd.int .i64) V (fun k_ => k_ = gc) (some ad) t.length t) => cut_foot h (Nat.le_refl t.length))
      rw [List.take_length] at HCUT
      have HQ := hidJ (show splitEnd (order || decide (x0 ≤ last)) (acc ++ [t]) = (r1, r2) by
        have h_ := HG.out
        rw [splitGo, if_pos (by rw [hE]; decide), HHD.out] at h_
        exact h_)
      clear hE
      cases order with
      | true =>
        go_wp2_with (go_at_call 16; (with_reducible refine (slices_IndexFunc_int_int.calls _ _ t 0 (-1) _ (Kd.F_now HF.out) hcap HIX.out).mono ?_); rintro e_ wi ⟨rfl, hb_⟩; have HGP_ := hidJ (blk_below HGP.out hb_); have HGR_ := hidJ (blk_below HGR.out hb_); have HN_ := hidJ (Kd.N_below HN.out hb_); have HF_ := hidJ (Kd.F_below HF.out hb_); have HCB_ := hidJ (show ∃ cs_, wi.heap[gc]? = some (.cells cs_ 3 (0, 0)) by obtain ⟨cs_, hcs⟩ := HCB.out; exact ⟨cs_, blk_below hcs hb_⟩); have HB_ := hidJ (below_step HB.out hb_); have hx0 := (hb_.cell (p := ad) (World.block_lt_of_cell? _ _ hx0_)).trans hx0_;  clear HGP HGR HN HF HCB HB hb_ hx0_; have HGP := HGP_; have HGR := HGR_; have HN := HN_; have HF := HF_; have HCB := HCB_; have HB := HB_; clear HGP_ HGR_ HN_ HF_ HCB_ HB_; clear HIX)
        refine start_ (n := 10) (S := fun w' => w'.cell? ⟨gp, 0, none⟩ = some vR) (ds := [7, 9]) (zqB 10 0) (by kernel_rfl) rfl rfl ((blk_cell HGP.out 0)) (fun hHeld => ?_)
        generalize hD : wi.drew = V at hHeld ⊢
        have HGP1 := hidJ (show V.heap[gp]? = some (.cells #[vR] 24 (0, 0)) by rw [← hD]; exact blk_drew HGP.out)
        have HGR1 := hidJ (show V.heap[gr]? = some (.cells #[.slice none 0 0] 24 (0, 0)) by rw [← hD]; exact blk_drew HGR.out)
        have HN1 := hidJ (show Kd.N (Kd.slice 3 (Kd.int .i64)) 28 V w.heap.size (fun k_ => w.heap.size ≤ k_ ∧ k_ ≠ gp ∧ k_ ≠ gr) vR acc by rw [← hD]; exact Kd.N_drew HN.out)
        have HF1 := hidJ (show Kd.F (Kd.int .i64) V (fun k_ => k_ = gc) (some ad) t.length t by rw [← hD]; exact Kd.F_drew HF.out)
        have HC1 := hidJ (show ∃ cs_, V.heap[gc]? = some (.cells cs_ 3 (0, 0)) by rw [← hD]; exact HCB.out)
        have HB1 := hidJ (show Below w.heap.size w V by rw [← hD]; exact HB.out.drew)
        clear hD HGP HGR HN HF HCB HB
        refine zqp 0 (some 50) (zqB 10 1) (by kernel_rfl) (h := ?_)
        refine zqt 1 (some 51) (zqB 10 3) (by kernel_rfl) hHeld (h := ?_)
        refine zqp 2 (some 52) (zqB 10 7) (by kernel_rfl) (h := ?_)
        refine zqp 3 (some 53) (zqB 10 15) (by kernel_rfl) (h := ?_)
        refine zqp 4 (some 54) (zqB 10 31) (by kernel_rfl) (h := ?_)
        refine zqp 5 (some 55) (zqB 10 63) (by kernel_rfl) (h := ?_)
        refine one_ (i := 6) (N := some 56) (zqB 10 127) rfl rfl (by kernel_rfl) (by decide) (fun K hK => ?_)
        refine value_ (w1 := ?_) (v := ?_) (by rfl) rfl ?_ ?_
        rotate_left 2
        · go_simp
          constructor
          · rfl
          · rfl
        refine hK.out _ _ ((World.cell?_alloc_lt _ _ _ (World.block_lt_of_cell? _ _ hHeld)).trans hHeld) (fun hHeld => ?_)
        clear hK K
        refine norm_ (a' := ?_) ?_ ?_
        rotate_left
        · show Act.put _ _ _ = _
          simp only [Act.put, List.setIfInBounds_toArray, List.set_cons_zero, List.set_cons_succ, i64_w, i32_w]
          rfl
        refine last_ (i := 7) (N := some 57) (zqB 10 255) rfl rfl (by kernel_rfl) (by decide) (fun K hK => ?_)
        refine Kd.N_append_step (Kd.slice 3 (Kd.int .i64)) (w0 := w) w.heap.size (by rfl) (.tmp 51) (.tmp 56) 22 28 (.slice none 0 0) 24 rfl Try.underlying22 info28 rfl (by decide) (by omega) vR acc (t) [.slice (some ad) t.length t.length] (fun k_ => w.heap.size ≤ k_ ∧ k_ ≠ gp ∧ k_ ≠ gr) (fun k_ => k_ = gc) rfl rfl ?aP ?aK ?aF ?aO ?aB ?aS ?aL ?_
        case aP => exact HCUT.out V HF1.out
        case aK => intro k hk; subst hk; exact ⟨HNE.out, by obtain ⟨cs_, hcs⟩ := HC1.out; exact Kd.N_ne HN1.out hcs (by decide)⟩
        case aF => intro k hk; have h1 := blk_lt HGP1.out; have h2 := blk_lt HGR1.out; have h3 := below_size HB1.out; exact ⟨by omega, by omega, by omega⟩
        case aO => exact HN1.out
        case aB => exact HB1.out
        case aS => exact below_size HB1.out
        case aL => omega
        intro v1 w1 ho hb hg hat
        obtain ⟨A1, c1, hv1_⟩ := Kd.N_slice ho
        obtain ⟨n1, hn1_⟩ : ∃ n, n = (acc ++ [t]).length := ⟨_, rfl⟩
        rw [← hn1_] at hv1_
        clear hn1_
        subst hv1_
        have HN2 := hidJ ho
        have HB2 := hidJ hb
        have HGP2 := hidJ (blk_grown HGP1.out hg (Kd.N_ne HN1.out HGP1.out (by decide)))
        have HGR2 := hidJ (blk_grown HGR1.out hg (Kd.N_ne HN1.out HGR1.out (by decide)))
        have HC2 := hidJ (show ∃ cs_, w1.heap[gc]? = some (.cells cs_ 3 (0, 0)) by obtain ⟨cs_, hcs⟩ := HC1.out; exact ⟨cs_, blk_grown hcs hg (Kd.N_ne HN1.out hcs (by decide))⟩)
        have HF2 := hidJ (Kd.F_grown HF1.out hg (fun k hk => by subst hk; obtain ⟨cs_, hcs⟩ := HC1.out; exact Kd.N_ne HN1.out hcs (by decide)))
        clear ho hb hg hat HN1 HB1 HGP1 HGR1 HC1 HF1
        refine hK.out _ _ ?_
        clear hK K
        refine norm_ (a' := ?_) ?_ ?_
        rotate_left
        · show Act.put _ _ _ = _
          simp only [Act.put, List.setIfInBounds_toArray, List.set_cons_zero, List.set_cons_succ, i64_w, i32_w]
          rfl
        refine zqp 8 (some 58) (zqB 10 511) (by kernel_rfl) (h := ?_)
        refine last_ (i := 9) (N := none) (zqB 10 1023) rfl rfl (by kernel_rfl) (by decide) (fun K hK => ?_)
        refine want_ (by rfl) ?_
        have hc0 := blk_cell HGP2.out 0
        have hf0 := blk_frozen HGP2.out 0
        go_simp
        refine hK.out _ _ ?_
        clear hK K hc0 hf0
        refine done_ (by kernel_rfl) ?_
        have HGP3 := hidJ (blk_set HGP2.out 0 (Value.slice A1 n1 c1))
        have HGR3 := hidJ (show (w1.setCell ⟨gp, 0, none⟩ (Value.slice A1 n1 c1)).heap[gr]? = _ from (Below.heap_setCell w1 ⟨gp, 0, none⟩ (Value.slice A1 n1 c1) gr (fun e => HPR.out e.symm)).trans HGR2.out)
        have HN3 := hidJ (Kd.N_far (p := ⟨gp, 0, none⟩) HN2.out (fun k hk => hk.2.1) (Value.slice A1 n1 c1))
        have HC3 := hidJ (show ∃ cs_, (w1.setCell ⟨gp, 0, none⟩ (Value.slice A1 n1 c1)).heap[gc]? = some (.cells cs_ 3 (0, 0)) by obtain ⟨cs_, hcs⟩ := HC2.out; exact ⟨cs_, (Below.heap_setCell w1 ⟨gp, 0, none⟩ (Value.slice A1 n1 c1) gc HNE.out.2.1).trans hcs⟩)
        have HF3 := hidJ (Kd.F_far (p := ⟨gp, 0, none⟩) HF2.out (fun k hk => by subst hk; exact HNE.out.2.1) (Value.slice A1 n1 c1))
        have HB3 := hidJ (show Below w.heap.size w (w1.setCell ⟨gp, 0, none⟩ (Value.slice A1 n1 c1)) from below_set HB2.out HGP0.out)
        clear HGP2 HGR2 HN2 HC2 HF2 HB2
        have hcR := cell0 HGR3.out
        have hfR := blk_frozen HGR3.out 0
        have hcP := cell0 HGP3.out
        have hfP := blk_frozen HGP3.out 0
        generalize w1.setCell ⟨gp, 0, none⟩ (Value.slice A1 n1 c1) = w3 at HGP3 HGR3 HN3 HC3 HF3 HB3 hcR hfR hcP hfP ⊢
        obtain ⟨rfl, rfl⟩ := Prod.mk.inj HQ.out.symm
        go_wp2
        (try simp only [Exit.inBlock, Exit.then, Exit.noGoto])
        refine bodyPost_ret (results_ct rfl _ _ gr 24 #[.slice none 0 0] (0, 0) _ rfl (blk_put (cs := #[.slice none 0 0]) HGR3.out 0 _ rfl) Try.underlying24 rfl (by kernel_rfl)) rfl ?_
        exact ⟨_, rfl, Kd.N_nil _ _ _ _ _, below_set HB3.out HGR0'.out⟩
      | false =>
        by_cases hxl : x0 ≤ last
        · have dxl : decide (x0 ≤ last) = true := decide_eq_true hxl
          have HQ2 := hidJ (show (([] : List (List Int)), (8 : Int)) = (r1, r2) by have h_ := HQ.out; rw [dxl] at h_; exact h_)
          go_wp2_with (go_at_call 16; (with_reducible refine (slices_IndexFunc_int_int.calls _ _ t 0 (-1) _ (Kd.F_now HF.out) hcap HIX.out).mono ?_); rintro e_ wi ⟨rfl, hb_⟩; have HGP_ := hidJ (blk_below HGP.out hb_); have HGR_ := hidJ (blk_below HGR.out hb_); have HN_ := hidJ (Kd.N_below HN.out hb_); have HF_ := hidJ (Kd.F_below HF.out hb_); have HCB_ := hidJ (show ∃ cs_, wi.heap[gc]? = some (.cells cs_ 3 (0, 0)) by obtain ⟨cs_, hcs⟩ := HCB.out; exact ⟨cs_, blk_below hcs hb_⟩); have HB_ := hidJ (below_step HB.out hb_); have hx0 := (hb_.cell (p := ad) (World.block_lt_of_cell? _ _ hx0_)).trans hx0_;  clear HGP HGR HN HF HCB HB hb_ hx0_; have HGP := HGP_; have HGR := HGR_; have HN := HN_; have HF := HF_; have HCB := HCB_; have HB := HB_; clear HGP_ HGR_ HN_ HF_ HCB_ HB_; clear HIX)
          refine start_ (n := 10) (S := fun w' => w'.cell? ⟨gp, 0, none⟩ = some vR) (ds := [7, 9]) (zqB 10 0) (by kernel_rfl) rfl rfl ((blk_cell HGP.out 0)) (fun hHeld => ?_)
          generalize hD : wi.drew = V at hHeld ⊢
          have HGP1 := hidJ (show V.heap[gp]? = some (.cells #[vR] 24 (0, 0)) by rw [← hD]; exact blk_drew HGP.out)
          have HGR1 := hidJ (show V.heap[gr]? = some (.cells #[.slice none 0 0] 24 (0, 0)) by rw [← hD]; exact blk_drew HGR.out)
          have HN1 := hidJ (show Kd.N (Kd.slice 3 (Kd.int .i64)) 28 V w.heap.size (fun k_ => w.heap.size ≤ k_ ∧ k_ ≠ gp ∧ k_ ≠ gr) vR acc by rw [← hD]; exact Kd.N_drew HN.out)
          have HF1 := hidJ (show Kd.F (Kd.int .i64) V (fun k_ => k_ = gc) (some ad) t.length t by rw [← hD]; exact Kd.F_drew HF.out)
          have HC1 := hidJ (show ∃ cs_, V.heap[gc]? = some (.cells cs_ 3 (0, 0)) by rw [← hD]; exact HCB.out)
          have HB1 := hidJ (show Below w.heap.size w V by rw [← hD]; exact HB.out.drew)
          clear hD HGP HGR HN HF HCB HB
          refine zqp 0 (some 50) (zqB 10 1) (by kernel_rfl) (h := ?_)
          refine zqt 1 (some 51) (zqB 10 3) (by kernel_rfl) hHeld (h := ?_)
          refine zqp 2 (some 52) (zqB 10 7) (by kernel_rfl) (h := ?_)
          refine zqp 3 (some 53) (zqB 10 15) (by kernel_rfl) (h := ?_)
          refine zqp 4 (some 54) (zqB 10 31) (by kernel_rfl) (h := ?_)
          refine zqp 5 (some 55) (zqB 10 63) (by kernel_rfl) (h := ?_)
          refine one_ (i := 6) (N := some 56) (zqB 10 127) rfl rfl (by kernel_rfl) (by decide) (fun K hK => ?_)
          refine value_ (w1 := ?_) (v := ?_) (by rfl) rfl ?_ ?_
          rotate_left 2
          · go_simp
            constructor
            · rfl
            · rfl
          refine hK.out _ _ ((World.cell?_alloc_lt _ _ _ (World.block_lt_of_cell? _ _ hHeld)).trans hHeld) (fun hHeld => ?_)
          clear hK K
          refine norm_ (a' := ?_) ?_ ?_
          rotate_left
          · show Act.put _ _ _ = _
            simp only [Act.put, List.setIfInBounds_toArray, List.set_cons_zero, List.set_cons_succ, i64_w, i32_w]
            rfl
          refine last_ (i := 7) (N := some 57) (zqB 10 255) rfl rfl (by kernel_rfl) (by decide) (fun K hK => ?_)
          refine Kd.N_append_step (Kd.slice 3 (Kd.int .i64)) (w0 := w) w.heap.size (by rfl) (.tmp 51) (.tmp 56) 22 28 (.slice none 0 0) 24 rfl Try.underlying22 info28 rfl (by decide) (by omega) vR acc (t) [.slice (some ad) t.length t.length] (fun k_ => w.heap.size ≤ k_ ∧ k_ ≠ gp ∧ k_ ≠ gr) (fun k_ => k_ = gc) rfl rfl ?aP ?aK ?aF ?aO ?aB ?aS ?aL ?_
          case aP => exact HCUT.out V HF1.out
          case aK => intro k hk; subst hk; exact ⟨HNE.out, by obtain ⟨cs_, hcs⟩ := HC1.out; exact Kd.N_ne HN1.out hcs (by decide)⟩
          case aF => intro k hk; have h1 := blk_lt HGP1.out; have h2 := blk_lt HGR1.out; have h3 := below_size HB1.out; exact ⟨by omega, by omega, by omega⟩
          case aO => exact HN1.out
          case aB => exact HB1.out
          case aS => exact below_size HB1.out
          case aL => omega
          intro v1 w1 ho hb hg hat
          obtain ⟨A1, c1, hv1_⟩ := Kd.N_slice ho
          obtain ⟨n1, hn1_⟩ : ∃ n, n = (acc ++ [t]).length := ⟨_, rfl⟩
          rw [← hn1_] at hv1_
          clear hn1_
          subst hv1_
          have HN2 := hidJ ho
          have HB2 := hidJ hb
          have HGP2 := hidJ (blk_grown HGP1.out hg (Kd.N_ne HN1.out HGP1.out (by decide)))
          have HGR2 := hidJ (blk_grown HGR1.out hg (Kd.N_ne HN1.out HGR1.out (by decide)))
          have HC2 := hidJ (show ∃ cs_, w1.heap[gc]? = some (.cells cs_ 3 (0, 0)) by obtain ⟨cs_, hcs⟩ := HC1.out; exact ⟨cs_, blk_grown hcs hg (Kd.N_ne HN1.out hcs (by decide))⟩)
          have HF2 := hidJ (Kd.F_grown HF1.out hg (fun k hk => by subst hk; obtain ⟨cs_, hcs⟩ := HC1.out; exact Kd.N_ne HN1.out hcs (by decide)))
          clear ho hb hg hat HN1 HB1 HGP1 HGR1 HC1 HF1
          refine hK.out _ _ ?_
          clear hK K
          refine norm_ (a' := ?_) ?_ ?_
          rotate_left
          · show Act.put _ _ _ = _
            simp only [Act.put, List.setIfInBounds_toArray, List.set_cons_zero, List.set_cons_succ, i64_w, i32_w]
            rfl
          refine zqp 8 (some 58) (zqB 10 511) (by kernel_rfl) (h := ?_)
          refine last_ (i := 9) (N := none) (zqB 10 1023) rfl rfl (by kernel_rfl) (by decide) (fun K hK => ?_)
          refine want_ (by rfl) ?_
          have hc0 := blk_cell HGP2.out 0
          have hf0 := blk_frozen HGP2.out 0
          go_simp
          refine hK.out _ _ ?_
          clear hK K hc0 hf0
          refine done_ (by kernel_rfl) ?_
          have HGP3 := hidJ (blk_set HGP2.out 0 (Value.slice A1 n1 c1))
          have HGR3 := hidJ (show (w1.setCell ⟨gp, 0, none⟩ (Value.slice A1 n1 c1)).heap[gr]? = _ from (Below.heap_setCell w1 ⟨gp, 0, none⟩ (Value.slice A1 n1 c1) gr (fun e => HPR.out e.symm)).trans HGR2.out)
          have HN3 := hidJ (Kd.N_far (p := ⟨gp, 0, none⟩) HN2.out (fun k hk => hk.2.1) (Value.slice A1 n1 c1))
          have HC3 := hidJ (show ∃ cs_, (w1.setCell ⟨gp, 0, none⟩ (Value.slice A1 n1 c1)).heap[gc]? = some (.cells cs_ 3 (0, 0)) by obtain ⟨cs_, hcs⟩ := HC2.out; exact ⟨cs_, (Below.heap_setCell w1 ⟨gp, 0, none⟩ (Value.slice A1 n1 c1) gc HNE.out.2.1).trans hcs⟩)
          have HF3 := hidJ (Kd.F_far (p := ⟨gp, 0, none⟩) HF2.out (fun k hk => by subst hk; exact HNE.out.2.1) (Value.slice A1 n1 c1))
          have HB3 := hidJ (show Below w.heap.size w (w1.setCell ⟨gp, 0, none⟩ (Value.slice A1 n1 c1)) from below_set HB2.out HGP0.out)
          clear HGP2 HGR2 HN2 HC2 HF2 HB2
          have hcR := cell0 HGR3.out
          have hfR := blk_frozen HGR3.out 0
          have hcP := cell0 HGP3.out
          have hfP := blk_frozen HGP3.out 0
          generalize w1.setCell ⟨gp, 0, none⟩ (Value.slice A1 n1 c1) = w3 at HGP3 HGR3 HN3 HC3 HF3 HB3 hcR hfR hcP hfP ⊢
          obtain ⟨rfl, rfl⟩ := Prod.mk.inj HQ2.out.symm
          go_wp2
          (try simp only [Exit.inBlock, Exit.then, Exit.noGoto])
          refine bodyPost_ret (results_ct rfl _ _ gr 24 #[.slice none 0 0] (0, 0) _ rfl (blk_put (cs := #[.slice none 0 0]) HGR3.out 0 _ rfl) Try.underlying24 rfl (by kernel_rfl)) rfl ?_
          exact ⟨_, rfl, Kd.N_nil _ _ _ _ _, below_set HB3.out HGR0'.out⟩
        · have dxl : decide (x0 ≤ last) = false := decide_eq_false hxl
          have HQ2 := hidJ (show (acc ++ [t], (0 : Int)) = (r1, r2) by have h_ := HQ.out; rw [dxl] at h_; exact h_)
          go_wp2_with (go_at_call 16; (with_reducible refine (slices_IndexFunc_int_int.calls _ _ t 0 (-1) _ (Kd.F_now HF.out) hcap HIX.out).mono ?_); rintro e_ wi ⟨rfl, hb_⟩; have HGP_ := hidJ (blk_below HGP.out hb_); have HGR_ := hidJ (blk_below HGR.out hb_); have HN_ := hidJ (Kd.N_below HN.out hb_); have HF_ := hidJ (Kd.F_below HF.out hb_); have HCB_ := hidJ (show ∃ cs_, wi.heap[gc]? = some (.cells cs_ 3 (0, 0)) by obtain ⟨cs_, hcs⟩ := HCB.out; exact ⟨cs_, blk_below hcs hb_⟩); have HB_ := hidJ (below_step HB.out hb_); have hx0 := (hb_.cell (p := ad) (World.block_lt_of_cell? _ _ hx0_)).trans hx0_;  clear HGP HGR HN HF HCB HB hb_ hx0_; have HGP := HGP_; have HGR := HGR_; have HN := HN_; have HF := HF_; have HCB := HCB_; have HB := HB_; clear HGP_ HGR_ HN_ HF_ HCB_ HB_; clear HIX)
          refine start_ (n := 10) (S := fun w' => w'.cell? ⟨gp, 0, none⟩ = some vR) (ds := [7, 9]) (zqB 10 0) (by kernel_rfl) rfl rfl ((blk_cell HGP.out 0)) (fun hHeld => ?_)
          generalize hD : wi.drew = V at hHeld ⊢
          have HGP1 := hidJ (show V.heap[gp]? = some (.cells #[vR] 24 (0, 0)) by rw [← hD]; exact blk_drew HGP.out)
          have HGR1 := hidJ (show V.heap[gr]? = some (.cells #[.slice none 0 0] 24 (0, 0)) by rw [← hD]; exact blk_drew HGR.out)
          have HN1 := hidJ (show Kd.N (Kd.slice 3 (Kd.int .i64)) 28 V w.heap.size (fun k_ => w.heap.size ≤ k_ ∧ k_ ≠ gp ∧ k_ ≠ gr) vR acc by rw [← hD]; exact Kd.N_drew HN.out)
          have HF1 := hidJ (show Kd.F (Kd.int .i64) V (fun k_ => k_ = gc) (some ad) t.length t by rw [← hD]; exact Kd.F_drew HF.out)
          have HC1 := hidJ (show ∃ cs_, V.heap[gc]? = some (.cells cs_ 3 (0, 0)) by rw [← hD]; exact HCB.out)
          have HB1 := hidJ (show Below w.heap.size w V by rw [← hD]; exact HB.out.drew)
          clear hD HGP HGR HN HF HCB HB
          refine zqp 0 (some 50) (zqB 10 1) (by kernel_rfl) (h := ?_)
          refine zqt 1 (some 51) (zqB 10 3) (by kernel_rfl) hHeld (h := ?_)
          refine zqp 2 (some 52) (zqB 10 7) (by kernel_rfl) (h := ?_)
          refine zqp 3 (some 53) (zqB 10 15) (by kernel_rfl) (h := ?_)
          refine zqp 4 (some 54) (zqB 10 31) (by kernel_rfl) (h := ?_)
          refine zqp 5 (some 55) (zqB 10 63) (by kernel_rfl) (h := ?_)
          refine one_ (i := 6) (N := some 56) (zqB 10 127) rfl rfl (by kernel_rfl) (by decide) (fun K hK => ?_)
          refine value_ (w1 := ?_) (v := ?_) (by rfl) rfl ?_ ?_
          rotate_left 2
          · go_simp
            constructor
            · rfl
            · rfl
          refine hK.out _ _ ((World.cell?_alloc_lt _ _ _ (World.block_lt_of_cell? _ _ hHeld)).trans hHeld) (fun hHeld => ?_)
          clear hK K
          refine norm_ (a' := ?_) ?_ ?_
          rotate_left
          · show Act.put _ _ _ = _
            simp only [Act.put, List.setIfInBounds_toArray, List.set_cons_zero, List.set_cons_succ, i64_w, i32_w]
            rfl
          refine last_ (i := 7) (N := some 57) (zqB 10 255) rfl rfl (by kernel_rfl) (by decide) (fun K hK => ?_)
          refine Kd.N_append_step (Kd.slice 3 (Kd.int .i64)) (w0 := w) w.heap.size (by rfl) (.tmp 51) (.tmp 56) 22 28 (.slice none 0 0) 24 rfl Try.underlying22 info28 rfl (by decide) (by omega) vR acc (t) [.slice (some ad) t.length t.length] (fun k_ => w.heap.size ≤ k_ ∧ k_ ≠ gp ∧ k_ ≠ gr) (fun k_ => k_ = gc) rfl rfl ?aP ?aK ?aF ?aO ?aB ?aS ?aL ?_
          case aP => exact HCUT.out V HF1.out
          case aK => intro k hk; subst hk; exact ⟨HNE.out, by obtain ⟨cs_, hcs⟩ := HC1.out; exact Kd.N_ne HN1.out hcs (by decide)⟩
          case aF => intro k hk; have h1 := blk_lt HGP1.out; have h2 := blk_lt HGR1.out; have h3 := below_size HB1.out; exact ⟨by omega, by omega, by omega⟩
          case aO => exact HN1.out
          case aB => exact HB1.out
          case aS => exact below_size HB1.out
          case aL => omega
          intro v1 w1 ho hb hg hat
          obtain ⟨A1, c1, hv1_⟩ := Kd.N_slice ho
          obtain ⟨n1, hn1_⟩ : ∃ n, n = (acc ++ [t]).length := ⟨_, rfl⟩
          rw [← hn1_] at hv1_
          clear hn1_
          subst hv1_
          have HN2 := hidJ ho
          have HB2 := hidJ hb
          have HGP2 := hidJ (blk_grown HGP1.out hg (Kd.N_ne HN1.out HGP1.out (by decide)))
          have HGR2 := hidJ (blk_grown HGR1.out hg (Kd.N_ne HN1.out HGR1.out (by decide)))
          have HC2 := hidJ (show ∃ cs_, w1.heap[gc]? = some (.cells cs_ 3 (0, 0)) by obtain ⟨cs_, hcs⟩ := HC1.out; exact ⟨cs_, blk_grown hcs hg (Kd.N_ne HN1.out hcs (by decide))⟩)
          have HF2 := hidJ (Kd.F_grown HF1.out hg (fun k hk => by subst hk; obtain ⟨cs_, hcs⟩ := HC1.out; exact Kd.N_ne HN1.out hcs (by decide)))
          clear ho hb hg hat HN1 HB1 HGP1 HGR1 HC1 HF1
          refine hK.out _ _ ?_
          clear hK K
          refine norm_ (a' := ?_) ?_ ?_
          rotate_left
          · show Act.put _ _ _ = _
            simp only [Act.put, List.setIfInBounds_toArray, List.set_cons_zero, List.set_cons_succ, i64_w, i32_w]
            rfl
          refine zqp 8 (some 58) (zqB 10 511) (by kernel_rfl) (h := ?_)
          refine last_ (i := 9) (N := none) (zqB 10 1023) rfl rfl (by kernel_rfl) (by decide) (fun K hK => ?_)
          refine want_ (by rfl) ?_
          have hc0 := blk_cell HGP2.out 0
          have hf0 := blk_frozen HGP2.out 0
          go_simp
          refine hK.out _ _ ?_
          clear hK K hc0 hf0
          refine done_ (by kernel_rfl) ?_
          have HGP3 := hidJ (blk_set HGP2.out 0 (Value.slice A1 n1 c1))
          have HGR3 := hidJ (show (w1.setCell ⟨gp, 0, none⟩ (Value.slice A1 n1 c1)).heap[gr]? = _ from (Below.heap_setCell w1 ⟨gp, 0, none⟩ (Value.slice A1 n1 c1) gr (fun e => HPR.out e.symm)).trans HGR2.out)
          have HN3 := hidJ (Kd.N_far (p := ⟨gp, 0, none⟩) HN2.out (fun k hk => hk.2.1) (Value.slice A1 n1 c1))
          have HC3 := hidJ (show ∃ cs_, (w1.setCell ⟨gp, 0, none⟩ (Value.slice A1 n1 c1)).heap[gc]? = some (.cells cs_ 3 (0, 0)) by obtain ⟨cs_, hcs⟩ := HC2.out; exact ⟨cs_, (Below.heap_setCell w1 ⟨gp, 0, none⟩ (Value.slice A1 n1 c1) gc HNE.out.2.1).trans hcs⟩)
          have HF3 := hidJ (Kd.F_far (p := ⟨gp, 0, none⟩) HF2.out (fun k hk => by subst hk; exact HNE.out.2.1) (Value.slice A1 n1 c1))
          have HB3 := hidJ (show Below w.heap.size w (w1.setCell ⟨gp, 0, none⟩ (Value.slice A1 n1 c1)) from below_set HB2.out HGP0.out)
          clear HGP2 HGR2 HN2 HC2 HF2 HB2
          have hcR := cell0 HGR3.out
          have hfR := blk_frozen HGR3.out 0
          have hcP := cell0 HGP3.out
          have hfP := blk_frozen HGP3.out 0
          generalize w1.setCell ⟨gp, 0, none⟩ (Value.slice A1 n1 c1) = w3 at HGP3 HGR3 HN3 HC3 HF3 HB3 hcR hfR hcP hfP ⊢
          obtain ⟨rfl, rfl⟩ := Prod.mk.inj HQ2.out.symm
          go_wp2
          (try simp only [Exit.inBlock, Exit.then, Exit.noGoto])
          refine bodyPost_ret (results_ct rfl _ _ gr 24 #[Value.slice A1 n1 c1] (0, 0) _ rfl (blk_put (cs := #[.slice none 0 0]) HGR3.out 0 _ rfl) Try.underlying24 rfl (by kernel_rfl)) rfl ?_
          exact ⟨_, rfl, Kd.N_mono (Kd.N_far (p := ⟨gr, 0, none⟩) HN3.out (fun k hk => hk.2.2) (Value.slice A1 n1 c1)) (fun _ hk => hk.1), below_set HB3.out HGR0'.out⟩
    · have HIX := hidJ (show slices_IndexFunc_int_int.f t 0 = some (i : Int) by unfold slices_IndexFunc_int_int.f; rw [hE])
      have HIE := hidJ hE
      obtain ⟨xi, hxie⟩ : ∃ x, x = t[i] := ⟨_, rfl⟩
      have hxi_ : wr.cell? (ad.add i) = some (.int .i64 xi) := by
        obtain ⟨ad2, e2, h2⟩ := int_at (Kd.F_now HF.out) i hi
        obtain rfl := Option.some.inj e2
        rw [hxie]; exact h2
      have hi' : (i : Int) < (t.length : Int) := by omega
      have hneg : ¬ (i : Int) < 0 := by omega
      have HXI := hidJ hxie
      clear hxie hE
      by_cases hi0 : i = 0
      · have HQ2 := hidJ ((splitGo_bad hi HIE.out (Or.inl hi0)).symm.trans HG.out)
        have z1 : (i : Int) = 0 := by omega
        have z2 : ((i : Int) == 0) = true := by rw [z1]; rfl
        clear hi0
        have hcR_ := cell0 HGR.out
        have hfR_ := blk_frozen HGR.out 0
        obtain ⟨rfl, rfl⟩ := Prod.mk.inj HQ2.out
        go_wp2_with (go_at_call 16; (with_reducible refine (slices_IndexFunc_int_int.calls _ _ t 0 (i : Int) _ (Kd.F_now HF.out) hcap HIX.out).mono ?_); rintro e_ wi ⟨rfl, hb_⟩; have HGP_ := hidJ (blk_below HGP.out hb_); have HGR_ := hidJ (blk_below HGR.out hb_); have HN_ := hidJ (Kd.N_below HN.out hb_); have HF_ := hidJ (Kd.F_below HF.out hb_); have HCB_ := hidJ (show ∃ cs_, wi.heap[gc]? = some (.cells cs_ 3 (0, 0)) by obtain ⟨cs_, hcs⟩ := HCB.out; exact ⟨cs_, blk_below hcs hb_⟩); have HB_ := hidJ (below_step HB.out hb_); have hx0 := (hb_.cell (p := ad) (World.block_lt_of_cell? _ _ hx0_)).trans hx0_; have hxi := (hb_.cell (p := ad.add i) (World.block_lt_of_cell? _ _ hxi_)).trans hxi_; clear hxi_; clear HGP HGR HN HF HCB HB hb_ hx0_; have HGP := HGP_; have hcR := cell0 HGR_.out; have hfR := blk_frozen HGR_.out 0; clear hcR_ hfR_; have HGR := HGR_; have HN := HN_; have HF := HF_; have HCB := HCB_; have HB := HB_; clear HGP_ HGR_ HN_ HF_ HCB_ HB_; clear HIX)
        (try simp only [Exit.inBlock, Exit.then, Exit.noGoto])
        refine bodyPost_ret (results_ct rfl _ _ gr 24 #[.slice none 0 0] (0, 0) _ rfl (blk_put (cs := #[.slice none 0 0]) HGR.out 0 _ rfl) Try.underlying24 rfl (by kernel_rfl)) rfl ?_
        exact ⟨_, rfl, Kd.N_nil _ _ _ _ _, below_set HB.out HGR0'.out⟩
      · have z1 : ¬ (i : Int) = 0 := by omega
        have z2 : ((i : Int) == 0) = false := beq_eq_false_iff_ne.2 z1
        by_cases hx1 : xi < 0
        · have HQ2 := hidJ ((splitGo_bad hi HIE.out (Or.inr (Or.inl (by rw [← HXI.out]; exact hx1)))).symm.trans HG.out)
          have d1 : decide (xi < 0) = true := decide_eq_true hx1
          have hcR_ := cell0 HGR.out
          have hfR_ := blk_frozen HGR.out 0
          obtain ⟨rfl, rfl⟩ := Prod.mk.inj HQ2.out
          go_wp2_with (go_at_call 16; (with_reducible refine (slices_IndexFunc_int_int.calls _ _ t 0 (i : Int) _ (Kd.F_now HF.out) hcap HIX.out).mono ?_); rintro e_ wi ⟨rfl, hb_⟩; have HGP_ := hidJ (blk_below HGP.out hb_); have HGR_ := hidJ (blk_below HGR.out hb_); have HN_ := hidJ (Kd.N_below HN.out hb_); have HF_ := hidJ (Kd.F_below HF.out hb_); have HCB_ := hidJ (show ∃ cs_, wi.heap[gc]? = some (.cells cs_ 3 (0, 0)) by obtain ⟨cs_, hcs⟩ := HCB.out; exact ⟨cs_, blk_below hcs hb_⟩); have HB_ := hidJ (below_step HB.out hb_); have hx0 := (hb_.cell (p := ad) (World.block_lt_of_cell? _ _ hx0_)).trans hx0_; have hxi := (hb_.cell (p := ad.add i) (World.block_lt_of_cell? _ _ hxi_)).trans hxi_; clear hxi_; clear HGP HGR HN HF HCB HB hb_ hx0_; have HGP := HGP_; have hcR := cell0 HGR_.out; have hfR := blk_frozen HGR_.out 0; clear hcR_ hfR_; have HGR := HGR_; have HN := HN_; have HF := HF_; have HCB := HCB_; have HB := HB_; clear HGP_ HGR_ HN_ HF_ HCB_ HB_; clear HIX)
          (try simp only [Exit.inBlock, Exit.then, Exit.noGoto])
          refine bodyPost_ret (results_ct rfl _ _ gr 24 #[.slice none 0 0] (0, 0) _ rfl (blk_put (cs := #[.slice none 0 0]) HGR.out 0 _ rfl) Try.underlying24 rfl (by kernel_rfl)) rfl ?_
          exact ⟨_, rfl, Kd.N_nil _ _ _ _ _, below_set HB.out HGR0'.out⟩
        · have d1 : decide (xi < 0) = false := decide_eq_false hx1
          by_cases hl : i + 1 = t.length
          · have HQ2 := hidJ ((splitGo_bad hi HIE.out (Or.inr (Or.inr hl))).symm.trans HG.out)
            have z3 : (i : Int) = (t.length : Int) - 1 := by omega
            have z4 : ((i : Int) == (t.length : Int) - 1) = true := beq_iff_eq.2 z3
            have z3p : ((i : Int) = (t.length : Int) - 1) = True := eq_true z3
            clear hl z3
            have hcR_ := cell0 HGR.out
            have hfR_ := blk_frozen HGR.out 0
            obtain ⟨rfl, rfl⟩ := Prod.mk.inj HQ2.out
            go_wp2_with (go_at_call 16; (with_reducible refine (slices_IndexFunc_int_int.calls _ _ t 0 (i : Int) _ (Kd.F_now HF.out) hcap HIX.out).mono ?_); rintro e_ wi ⟨rfl, hb_⟩; have HGP_ := hidJ (blk_below HGP.out hb_); have HGR_ := hidJ (blk_below HGR.out hb_); have HN_ := hidJ (Kd.N_below HN.out hb_); have HF_ := hidJ (Kd.F_below HF.out hb_); have HCB_ := hidJ (show ∃ cs_, wi.heap[gc]? = some (.cells cs_ 3 (0, 0)) by obtain ⟨cs_, hcs⟩ := HCB.out; exact ⟨cs_, blk_below hcs hb_⟩); have HB_ := hidJ (below_step HB.out hb_); have hx0 := (hb_.cell (p := ad) (World.block_lt_of_cell? _ _ hx0_)).trans hx0_; have hxi := (hb_.cell (p := ad.add i) (World.block_lt_of_cell? _ _ hxi_)).trans hxi_; clear hxi_; clear HGP HGR HN HF HCB HB hb_ hx0_; have HGP := HGP_; have hcR := cell0 HGR_.out; have hfR := blk_frozen HGR_.out 0; clear hcR_ hfR_; have HGR := HGR_; have HN := HN_; have HF := HF_; have HCB := HCB_; have HB := HB_; clear HGP_ HGR_ HN_ HF_ HCB_ HB_; clear HIX)
            (try simp only [Exit.inBlock, Exit.then, Exit.noGoto])
            refine bodyPost_ret (results_ct rfl _ _ gr 24 #[.slice none 0 0] (0, 0) _ rfl (blk_put (cs := #[.slice none 0 0]) HGR.out 0 _ rfl) Try.underlying24 rfl (by kernel_rfl)) rfl ?_
            exact ⟨_, rfl, Kd.N_nil _ _ _ _ _, below_set HB.out HGR0'.out⟩
          · have HNX := hidJ ((splitGo_on hi HIE.out hi0 (by rw [← HXI.out]; exact hx1) (by omega)).symm.trans HG.out)
            have HCUT := hidJ (fun V (h : Kd.F (Kd.int .i64) V (fun k_ => k_ = gc) (some ad) t.length t) => cut_foot h (Nat.le_of_lt hi))
            have z3 : ¬ (i : Int) = (t.length : Int) - 1 := by omega
            have z4 : ((i : Int) == (t.length : Int) - 1) = false := beq_eq_false_iff_ne.2 z3
            have z5 : ¬ (i : Int) = (t.length : Int) := by omega
            have z6 : ((i : Int) == (t.length : Int)) = false := beq_eq_false_iff_ne.2 z5
            have z7 : ¬ c = i + 1 := by omega
            have z8 : i ≤ c := by omega
            have z9 : i ≤ t.length := by omega
            cases order with
            | true =>
              go_wp2_with (go_at_call 16; (with_reducible refine (slices_IndexFunc_int_int.calls _ _ t 0 (i : Int) _ (Kd.F_now HF.out) hcap HIX.out).mono ?_); rintro e_ wi ⟨rfl, hb_⟩; have HGP_ := hidJ (blk_below HGP.out hb_); have HGR_ := hidJ (blk_below HGR.out hb_); have HN_ := hidJ (Kd.N_below HN.out hb_); have HF_ := hidJ (Kd.F_below HF.out hb_); have HCB_ := hidJ (show ∃ cs_, wi.heap[gc]? = some (.cells cs_ 3 (0, 0)) by obtain ⟨cs_, hcs⟩ := HCB.out; exact ⟨cs_, blk_below hcs hb_⟩); have HB_ := hidJ (below_step HB.out hb_); have hx0 := (hb_.cell (p := ad) (World.block_lt_of_cell? _ _ hx0_)).trans hx0_; have hxi := (hb_.cell (p := ad.add i) (World.block_lt_of_cell? _ _ hxi_)).trans hxi_; clear hxi_; clear HGP HGR HN HF HCB HB hb_ hx0_; have HGP := HGP_; have HGR := HGR_; have HN := HN_; have HF := HF_; have HCB := HCB_; have HB := HB_; clear HGP_ HGR_ HN_ HF_ HCB_ HB_; clear HIX)
              refine start_ (n := 10) (S := fun w' => w'.cell? ⟨gp, 0, none⟩ = some vR) (ds := [7, 9]) (zqB 10 0) (by kernel_rfl) rfl rfl ((blk_cell HGP.out 0)) (fun hHeld => ?_)
              generalize hD : wi.drew = V at hHeld ⊢
              have HGP1 := hidJ (show V.heap[gp]? = some (.cells #[vR] 24 (0, 0)) by rw [← hD]; exact blk_drew HGP.out)
              have HGR1 := hidJ (show V.heap[gr]? = some (.cells #[.slice none 0 0] 24 (0, 0)) by rw [← hD]; exact blk_drew HGR.out)
              have HN1 := hidJ (show Kd.N (Kd.slice 3 (Kd.int .i64)) 28 V w.heap.size (fun k_ => w.heap.size ≤ k_ ∧ k_ ≠ gp ∧ k_ ≠ gr) vR acc by rw [← hD]; exact Kd.N_drew HN.out)
              have HF1 := hidJ (show Kd.F (Kd.int .i64) V (fun k_ => k_ = gc) (some ad) t.length t by rw [← hD]; exact Kd.F_drew HF.out)
              have HC1 := hidJ (show ∃ cs_, V.heap[gc]? = some (.cells cs_ 3 (0, 0)) by rw [← hD]; exact HCB.out)
              have HB1 := hidJ (show Below w.heap.size w V by rw [← hD]; exact HB.out.drew)
              clear hD HGP HGR HN HF HCB HB
              refine zqp 0 (some 50) (zqB 10 1) (by kernel_rfl) (h := ?_)
              refine zqt 1 (some 51) (zqB 10 3) (by kernel_rfl) hHeld (h := ?_)
              refine zqp 2 (some 52) (zqB 10 7) (by kernel_rfl) (h := ?_)
              refine zqp 3 (some 53) (zqB 10 15) (by kernel_rfl) (h := ?_)
              refine zqp 4 (some 54) (zqB 10 31) (by kernel_rfl) (h := ?_)
              refine zqp 5 (some 55) (zqB 10 63) (by kernel_rfl) (h := ?_)
              refine one_ (i := 6) (N := some 56) (zqB 10 127) rfl rfl (by kernel_rfl) (by decide) (fun K hK => ?_)
              refine value_ (w1 := ?_) (v := ?_) (by rfl) rfl ?_ ?_
              rotate_left 2
              · go_simp
                constructor
                · rfl
                · rfl
              refine hK.out _ _ ((World.cell?_alloc_lt _ _ _ (World.block_lt_of_cell? _ _ hHeld)).trans hHeld) (fun hHeld => ?_)
              clear hK K
              refine norm_ (a' := ?_) ?_ ?_
              rotate_left
              · show Act.put _ _ _ = _
                simp only [Act.put, List.setIfInBounds_toArray, List.set_cons_zero, List.set_cons_succ, i64_w, i32_w]
                rfl
              refine last_ (i := 7) (N := some 57) (zqB 10 255) rfl rfl (by kernel_rfl) (by decide) (fun K hK => ?_)
              refine Kd.N_append_step (Kd.slice 3 (Kd.int .i64)) (w0 := w) w.heap.size (by rfl) (.tmp 51) (.tmp 56) 22 28 (.slice none 0 0) 24 rfl Try.underlying22 info28 rfl (by decide) (by omega) vR acc (t.take i) [.slice (some ad) i i] (fun k_ => w.heap.size ≤ k_ ∧ k_ ≠ gp ∧ k_ ≠ gr) (fun k_ => k_ = gc) rfl rfl ?aP ?aK ?aF ?aO ?aB ?aS ?aL ?_
              case aP => exact HCUT.out V HF1.out
              case aK => intro k hk; subst hk; exact ⟨HNE.out, by obtain ⟨cs_, hcs⟩ := HC1.out; exact Kd.N_ne HN1.out hcs (by decide)⟩
              case aF => intro k hk; have h1 := blk_lt HGP1.out; have h2 := blk_lt HGR1.out; have h3 := below_size HB1.out; exact ⟨by omega, by omega, by omega⟩
              case aO => exact HN1.out
              case aB => exact HB1.out
              case aS => exact below_size HB1.out
              case aL => omega
              intro v1 w1 ho hb hg hat
              obtain ⟨A1, c1, hv1_⟩ := Kd.N_slice ho
              obtain ⟨n1, hn1_⟩ : ∃ n, n = (acc ++ [t.take i]).length := ⟨_, rfl⟩
              rw [← hn1_] at hv1_
              clear hn1_
              subst hv1_
              have HN2 := hidJ ho
              have HB2 := hidJ hb
              have HGP2 := hidJ (blk_grown HGP1.out hg (Kd.N_ne HN1.out HGP1.out (by decide)))
              have HGR2 := hidJ (blk_grown HGR1.out hg (Kd.N_ne HN1.out HGR1.out (by decide)))
              have HC2 := hidJ (show ∃ cs_, w1.heap[gc]? = some (.cells cs_ 3 (0, 0)) by obtain ⟨cs_, hcs⟩ := HC1.out; exact ⟨cs_, blk_grown hcs hg (Kd.N_ne HN1.out hcs (by decide))⟩)
              have HF2 := hidJ (Kd.F_grown HF1.out hg (fun k hk => by subst hk; obtain ⟨cs_, hcs⟩ := HC1.out; exact Kd.N_ne HN1.out hcs (by decide)))
              clear ho hb hg hat HN1 HB1 HGP1 HGR1 HC1 HF1
              refine hK.out _ _ ?_
              clear hK K
              refine norm_ (a' := ?_) ?_ ?_
              rotate_left
              · show Act.put _ _ _ = _
                simp only [Act.put, List.setIfInBounds_toArray, List.set_cons_zero, List.set_cons_succ, i64_w, i32_w]
                rfl
              refine zqp 8 (some 58) (zqB 10 511) (by kernel_rfl) (h := ?_)
              refine last_ (i := 9) (N := none) (zqB 10 1023) rfl rfl (by kernel_rfl) (by decide) (fun K hK => ?_)
              refine want_ (by rfl) ?_
              have hc0 := blk_cell HGP2.out 0
              have hf0 := blk_frozen HGP2.out 0
              go_simp
              refine hK.out _ _ ?_
              clear hK K hc0 hf0
              refine done_ (by kernel_rfl) ?_
              have HGP3 := hidJ (blk_set HGP2.out 0 (Value.slice A1 n1 c1))
              have HGR3 := hidJ (show (w1.setCell ⟨gp, 0, none⟩ (Value.slice A1 n1 c1)).heap[gr]? = _ from (Below.heap_setCell w1 ⟨gp, 0, none⟩ (Value.slice A1 n1 c1) gr (fun e => HPR.out e.symm)).trans HGR2.out)
              have HN3 := hidJ (Kd.N_far (p := ⟨gp, 0, none⟩) HN2.out (fun k hk => hk.2.1) (Value.slice A1 n1 c1))
              have HC3 := hidJ (show ∃ cs_, (w1.setCell ⟨gp, 0, none⟩ (Value.slice A1 n1 c1)).heap[gc]? = some (.cells cs_ 3 (0, 0)) by obtain ⟨cs_, hcs⟩ := HC2.out; exact ⟨cs_, (Below.heap_setCell w1 ⟨gp, 0, none⟩ (Value.slice A1 n1 c1) gc HNE.out.2.1).trans hcs⟩)
              have HF3 := hidJ (Kd.F_far (p := ⟨gp, 0, none⟩) HF2.out (fun k hk => by subst hk; exact HNE.out.2.1) (Value.slice A1 n1 c1))
              have HB3 := hidJ (show Below w.heap.size w (w1.setCell ⟨gp, 0, none⟩ (Value.slice A1 n1 c1)) from below_set HB2.out HGP0.out)
              clear HGP2 HGR2 HN2 HC2 HF2 HB2
              generalize w1.setCell ⟨gp, 0, none⟩ (Value.slice A1 n1 c1) = w3 at HGP3 HGR3 HN3 HC3 HF3 HB3 ⊢
              have HFN := hidJ (show Kd.F (Kd.int .i64) w3 (fun k_ => k_ = gc) (some (ad.add (i + 1))) (t.drop (i + 1)).length (t.drop (i + 1)) by
                have h_ := Kd.F_cut (m := i + 1) (c := c) HF3.out (by omega) hcap
                have e_ : (i + 1) * (Kd.int .i64).sz = i + 1 := Nat.mul_one _
                rw [if_neg z7, Option.map_some, e_] at h_
                exact h_)
              have HLD := hidJ (List.length_drop (i := i + 1) (l := t))
              go_wp2
              go_roundg q
              case measure => omega
              case rel =>
                have hld := HLD.out
                exact ⟨t.drop (i + 1), q, c - (i + 1), ad.add (i + 1), _, x0, acc ++ [t.take i], Value.slice A1 n1 c1, by rw [hld]; first | rfl | go_num | (congr 1; omega), rfl, rfl, by omega, by omega, by omega, Nat.le_refl _, by rw [List.length_append, List.length_singleton]; omega, hidJ (by have h_ := HNX.out; rw [HHD.out] at h_; exact h_), HGP3, HGR3, HN3, HFN, HC3, HB3⟩
            | false =>
              go_wp2_with (go_at_call 16; (with_reducible refine (slices_IndexFunc_int_int.calls _ _ t 0 (i : Int) _ (Kd.F_now HF.out) hcap HIX.out).mono ?_); rintro e_ wi ⟨rfl, hb_⟩; have HGP_ := hidJ (blk_below HGP.out hb_); have HGR_ := hidJ (blk_below HGR.out hb_); have HN_ := hidJ (Kd.N_below HN.out hb_); have HF_ := hidJ (Kd.F_below HF.out hb_); have HCB_ := hidJ (show ∃ cs_, wi.heap[gc]? = some (.cells cs_ 3 (0, 0)) by obtain ⟨cs_, hcs⟩ := HCB.out; exact ⟨cs_, blk_below hcs hb_⟩); have HB_ := hidJ (below_step HB.out hb_); have hx0 := (hb_.cell (p := ad) (World.block_lt_of_cell? _ _ hx0_)).trans hx0_; have hxi := (hb_.cell (p := ad.add i) (World.block_lt_of_cell? _ _ hxi_)).trans hxi_; clear hxi_; clear HGP HGR HN HF HCB HB hb_ hx0_; have HGP := HGP_; have HGR := HGR_; have HN := HN_; have HF := HF_; have HCB := HCB_; have HB := HB_; clear HGP_ HGR_ HN_ HF_ HCB_ HB_; clear HIX)
              refine start_ (n := 10) (S := fun w' => w'.cell? ⟨gp, 0, none⟩ = some vR) (ds := [7, 9]) (zqB 10 0) (by kernel_rfl) rfl rfl ((blk_cell HGP.out 0)) (fun hHeld => ?_)
              generalize hD : wi.drew = V at hHeld ⊢
              have HGP1 := hidJ (show V.heap[gp]? = some (.cells #[vR] 24 (0, 0)) by rw [← hD]; exact blk_drew HGP.out)
              have HGR1 := hidJ (show V.heap[gr]? = some (.cells #[.slice none 0 0] 24 (0, 0)) by rw [← hD]; exact blk_drew HGR.out)
              have HN1 := hidJ (show Kd.N (Kd.slice 3 (Kd.int .i64)) 28 V w.heap.size (fun k_ => w.heap.size ≤ k_ ∧ k_ ≠ gp ∧ k_ ≠ gr) vR acc by rw [← hD]; exact Kd.N_drew HN.out)
              have HF1 := hidJ (show Kd.F (Kd.int .i64) V (fun k_ => k_ = gc) (some ad) t.length t by rw [← hD]; exact Kd.F_drew HF.out)
              have HC1 := hidJ (show ∃ cs_, V.heap[gc]? = some (.cells cs_ 3 (0, 0)) by rw [← hD]; exact HCB.out)
              have HB1 := hidJ (show Below w.heap.size w V by rw [← hD]; exact HB.out.drew)
              clear hD HGP HGR HN HF HCB HB
              refine zqp 0 (some 50) (zqB 10 1) (by kernel_rfl) (h := ?_)
              refine zqt 1 (some 51) (zqB 10 3) (by kernel_rfl) hHeld (h := ?_)
              refine zqp 2 (some 52) (zqB 10 7) (by kernel_rfl) (h := ?_)
              refine zqp 3 (some 53) (zqB 10 15) (by kernel_rfl) (h := ?_)
              refine zqp 4 (some 54) (zqB 10 31) (by kernel_rfl) (h := ?_)
              refine zqp 5 (some 55) (zqB 10 63) (by kernel_rfl) (h := ?_)
              refine one_ (i := 6) (N := some 56) (zqB 10 127) rfl rfl (by kernel_rfl) (by decide) (fun K hK => ?_)
              refine value_ (w1 := ?_) (v := ?_) (by rfl) rfl ?_ ?_
              rotate_left 2
              · go_simp
                constructor
                · rfl
                · rfl
              refine hK.out _ _ ((World.cell?_alloc_lt _ _ _ (World.block_lt_of_cell? _ _ hHeld)).trans hHeld) (fun hHeld => ?_)
              clear hK K
              refine norm_ (a' := ?_) ?_ ?_
              rotate_left
              · show Act.put _ _ _ = _
                simp only [Act.put, List.setIfInBounds_toArray, List.set_cons_zero, List.set_cons_succ, i64_w, i32_w]
                rfl
              refine last_ (i := 7) (N := some 57) (zqB 10 255) rfl rfl (by kernel_rfl) (by decide) (fun K hK => ?_)
              refine Kd.N_append_step (Kd.slice 3 (Kd.int .i64)) (w0 := w) w.heap.size (by rfl) (.tmp 51) (.tmp 56) 22 28 (.slice none 0 0) 24 rfl Try.underlying22 info28 rfl (by decide) (by omega) vR acc (t.take i) [.slice (some ad) i i] (fun k_ => w.heap.size ≤ k_ ∧ k_ ≠ gp ∧ k_ ≠ gr) (fun k_ => k_ = gc) rfl rfl ?aP ?aK ?aF ?aO ?aB ?aS ?aL ?_
              case aP => exact HCUT.out V HF1.out
              case aK => intro k hk; subst hk; exact ⟨HNE.out, by obtain ⟨cs_, hcs⟩ := HC1.out; exact Kd.N_ne HN1.out hcs (by decide)⟩
              case aF => intro k hk; have h1 := blk_lt HGP1.out; have h2 := blk_lt HGR1.out; have h3 := below_size HB1.out; exact ⟨by omega, by omega, by omega⟩
              case aO => exact HN1.out
              case aB => exact HB1.out
              case aS => exact below_size HB1.out
              case aL => omega
              intro v1 w1 ho hb hg hat
              obtain ⟨A1, c1, hv1_⟩ := Kd.N_slice ho
              obtain ⟨n1, hn1_⟩ : ∃ n, n = (acc ++ [t.take i]).length := ⟨_, rfl⟩
              rw [← hn1_] at hv1_
              clear hn1_
              subst hv1_
              have HN2 := hidJ ho
              have HB2 := hidJ hb
              have HGP2 := hidJ (blk_grown HGP1.out hg (Kd.N_ne HN1.out HGP1.out (by decide)))
              have HGR2 := hidJ (blk_grown HGR1.out hg (Kd.N_ne HN1.out HGR1.out (by decide)))
              have HC2 := hidJ (show ∃ cs_, w1.heap[gc]? = some (.cells cs_ 3 (0, 0)) by obtain ⟨cs_, hcs⟩ := HC1.out; exact ⟨cs_, blk_grown hcs hg (Kd.N_ne HN1.out hcs (by decide))⟩)
              have HF2 := hidJ (Kd.F_grown HF1.out hg (fun k hk => by subst hk; obtain ⟨cs_, hcs⟩ := HC1.out; exact Kd.N_ne HN1.out hcs (by decide)))
              clear ho hb hg hat HN1 HB1 HGP1 HGR1 HC1 HF1
              refine hK.out _ _ ?_
              clear hK K
              refine norm_ (a' := ?_) ?_ ?_
              rotate_left
              · show Act.put _ _ _ = _
                simp only [Act.put, List.setIfInBounds_toArray, List.set_cons_zero, List.set_cons_succ, i64_w, i32_w]
                rfl
              refine zqp 8 (some 58) (zqB 10 511) (by kernel_rfl) (h := ?_)
              refine last_ (i := 9) (N := none) (zqB 10 1023) rfl rfl (by kernel_rfl) (by decide) (fun K hK => ?_)
              refine want_ (by rfl) ?_
              have hc0 := blk_cell HGP2.out 0
              have hf0 := blk_frozen HGP2.out 0
              go_simp
              refine hK.out _ _ ?_
              clear hK K hc0 hf0
              refine done_ (by kernel_rfl) ?_
              have HGP3 := hidJ (blk_set HGP2.out 0 (Value.slice A1 n1 c1))
              have HGR3 := hidJ (show (w1.setCell ⟨gp, 0, none⟩ (Value.slice A1 n1 c1)).heap[gr]? = _ from (Below.heap_setCell w1 ⟨gp, 0, none⟩ (Value.slice A1 n1 c1) gr (fun e => HPR.out e.symm)).trans HGR2.out)
              have HN3 := hidJ (Kd.N_far (p := ⟨gp, 0, none⟩) HN2.out (fun k hk => hk.2.1) (Value.slice A1 n1 c1))
              have HC3 := hidJ (show ∃ cs_, (w1.setCell ⟨gp, 0, none⟩ (Value.slice A1 n1 c1)).heap[gc]? = some (.cells cs_ 3 (0, 0)) by obtain ⟨cs_, hcs⟩ := HC2.out; exact ⟨cs_, (Below.heap_setCell w1 ⟨gp, 0, none⟩ (Value.slice A1 n1 c1) gc HNE.out.2.1).trans hcs⟩)
              have HF3 := hidJ (Kd.F_far (p := ⟨gp, 0, none⟩) HF2.out (fun k hk => by subst hk; exact HNE.out.2.1) (Value.slice A1 n1 c1))
              have HB3 := hidJ (show Below w.heap.size w (w1.setCell ⟨gp, 0, none⟩ (Value.slice A1 n1 c1)) from below_set HB2.out HGP0.out)
              clear HGP2 HGR2 HN2 HC2 HF2 HB2
              generalize w1.setCell ⟨gp, 0, none⟩ (Value.slice A1 n1 c1) = w3 at HGP3 HGR3 HN3 HC3 HF3 HB3 ⊢
              have HFN := hidJ (show Kd.F (Kd.int .i64) w3 (fun k_ => k_ = gc) (some (ad.add (i + 1))) (t.drop (i + 1)).length (t.drop (i + 1)) by
                have h_ := Kd.F_cut (m := i + 1) (c := c) HF3.out (by omega) hcap
                have e_ : (i + 1) * (Kd.int .i64).sz = i + 1 := Nat.mul_one _
                rw [if_neg z7, Option.map_some, e_] at h_
                exact h_)
              have HLD := hidJ (List.length_drop (i := i + 1) (l := t))
              go_wp2
              go_roundg q
              case measure => omega
              case rel =>
                have hld := HLD.out
                exact ⟨t.drop (i + 1), q, c - (i + 1), ad.add (i + 1), _, x0, acc ++ [t.take i], Value.slice A1 n1 c1, by rw [hld]; first | rfl | go_num | (congr 1; omega), rfl, rfl, by omega, by omega, by omega, Nat.le_refl _, by rw [List.length_append, List.length_singleton]; omega, hidJ (by have h_ := HNX.out; rw [HHD.out] at h_; exact h_), HGP3, HGR3, HN3, HFN, HC3, HB3⟩
set_option maxHeartbeats 4000000 in
theorem split_nil (A0 : Option Addr) (c0 : Nat) (w : World) :
    Calls Try.prog 11 #[.slice A0 0 c0] w fun e w' => ∃ v0_ : Value, e = .returned (.tuple #[.agg #[v0_], .int .i64 0]) ∧ Kd.N (Kd.slice 3 (Kd.int .i64)) 28 w' w.heap.size (fun k_ => w.heap.size ≤ k_) v0_ [] ∧ Below w.heap.size w w' := by
  go_enter Try.func11, Try.ntmps11
  go_wp2
  refine wp_scope_straight ?_
  obtain ⟨gr, hgr⟩ : ∃ g, g = w.heap.size := ⟨_, rfl⟩
  have hA0 := blk_new w (.cells #[.slice none 0 0] 24)
  have hBA := below_alloc (Below.refl w.heap.size w) (.cells #[.slice none 0 0] 24)
  rw [← hgr] at hA0 ⊢
  have HGR0 := hidJ hA0
  have HBA := hidJ hBA
  have HGRE := hidJ (show w.heap.size ≤ gr by rw [hgr]; exact Nat.le_refl _)
  clear hA0 hBA hgr
  generalize w.alloc (.cells #[.slice none 0 0] 24) = wa at HGR0 HBA ⊢
  obtain ⟨gp, hgp⟩ : ∃ g, g = wa.heap.size := ⟨_, rfl⟩
  have HGP := hidJ (blk_new wa (.cells #[.slice none 0 0] 24))
  have HGR := hidJ (blk_alloc HGR0.out (.cells #[.slice none 0 0] 24))
  have HB := hidJ (below_alloc HBA.out (.cells #[.slice none 0 0] 24))
  have hcP := cell0 HGP.out
  have hcR := cell0 HGR.out
  have hfR := blk_frozen HGR.out 0
  have hlt := blk_lt HGR0.out
  have hne : ¬ gr = wa.heap.size := by omega
  go_wp2
  (try simp only [Exit.inBlock, Exit.then, Exit.noGoto])
  refine bodyPost_ret (results_ct rfl _ _ gr 24 #[.slice none 0 0] (0, 0) _ rfl (blk_alloc (blk_put (cs := #[.slice none 0 0]) HGR0.out 0 _ rfl) _) Try.underlying24 rfl (by kernel_rfl)) rfl ?_
  exact ⟨_, rfl, Kd.N_nil _ _ _ _ _, below_alloc (below_set HBA.out HGRE.out) _⟩
theorem tour_Split.calls (A0 : Option Addr) (c0 : Nat) (l0 : List Int) (r1 : List (List Int)) (r2 : Int) (w : World) (hr0 : Kd.C (Kd.int .i64) w A0 l0.length l0) (hc0 : l0.length ≤ c0) (h : tour_Split.f l0 = some (r1, r2)) :
    Calls Try.prog 11 #[.slice A0 l0.length c0] w fun e w' => ∃ v0_ : Value, e = .returned (.tuple #[.agg #[v0_], .int .i64 r2]) ∧ Kd.N (Kd.slice 3 (Kd.int .i64)) 28 w' w.heap.size (fun k_ => w.heap.size ≤ k_) v0_ r1 ∧ Below w.heap.size w w' := by
  unfold tour_Split.f at h
  by_cases hm : l0.length ≤ 1000000
  · rw [if_pos hm] at h
    by_cases hl : l0 = []
    · rw [if_pos hl] at h
      obtain ⟨rfl, rfl⟩ := Prod.mk.inj (Option.some.inj h)
      subst hl
      exact split_nil A0 c0 w
    · rw [if_neg hl] at h
      exact split_x A0 c0 l0 r1 r2 w hr0 hc0 (List.length_pos_iff.2 hl) hm (Option.some.inj h)
  · rw [if_neg hm] at h
    cases h

end Go.Proofs.Ytblpfjocmbppbaa.PA
