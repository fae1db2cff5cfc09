/- What relax.Covers and relax.Join, and the document's two, come to: an order and its greatest lower bounds. No condition. -/
import Derived.Test.YtkcdpnigcbcalaaPAx2
import Derived.Test.YtkcdpnigcbcalaaPAx4
import Derived.Test.YtkcdpnigcbcalaaPAx5
import Derived.Test.YtkcdpnigcbcalaaOpA
import Derived.Test.YtkcdpnigcbcalaaSetBase
namespace Go.Proofs.Ytkcdpnigcbcalaa.Rel
open Go.RowKit Go.Proofs.Ytkcdpnigcbcalaa.PA Go.Proofs.YtkcdpnigcbcalaaW.PrintWords Go.Proofs.YtkcdpnigcbcalaaW.PrintLast Go.Proofs.Ytkcdpnigcbcalaa.Sets

abbrev St := S24
def U (x : Int) : Prop := 0 ≤ x ∧ x < 18446744073709551616
def OK (x : St) : Prop := U x.f5 ∧ U x.f6 ∧ U x.f7
def SubI (x y : Int) : Prop := Sub x.toNat y.toNat
instance (x y : Int) : Decidable (SubI x y) := inferInstanceAs (Decidable (Sub _ _))
def Cov (a b : St) : Prop := a.f0 = b.f0 ∧ a.f1 ≤ b.f1 ∧ a.f2 ≤ b.f2 ∧ a.f3 ≤ b.f3 ∧ a.f4 ≤ b.f4 ∧ SubI a.f5 b.f5 ∧ SubI a.f7 b.f7 ∧ SubI b.f6 a.f6
instance (a b : St) : Decidable (Cov a b) := inferInstanceAs (Decidable (_ ∧ _))
theorem ok_wf {x : St} (h : wf_t24 x) : OK x := ⟨wfu h.2.2.2.2.2.1, wfu h.2.2.2.2.2.2.1, wfu h.2.2.2.2.2.2.2⟩
theorem U.nat {x : Int} (h : U x) : ∃ n : Nat, x = n ∧ n < 2 ^ 64 := ⟨x.toNat, by have := h.1; omega, by have := h.2; omega⟩

theorem sub_refl (x : Int) : SubI x x := fun _ _ h => h
theorem sub_trans {x y z : Int} (h : SubI x y) (h' : SubI y z) : SubI x z := fun i hi hx => h' i hi (h i hi hx)
theorem sub_anti {x y : Int} (hx : U x) (hy : U y) (h : SubI x y) (h' : SubI y x) : x = y := by
  obtain ⟨a, rfl, ha⟩ := hx.nat
  obtain ⟨b, rfl, hb⟩ := hy.nat
  have e : a = b := bits_ext ha hb (fun i hi => by rw [Bool.eq_iff_iff]; exact ⟨h i hi, h' i hi⟩)
  rw [e]
theorem and_U {x y : Int} (hx : U x) (hy : U y) : U (Go.bits .and .u64 x y) ∧ (Go.bits .and .u64 x y).toNat = x.toNat &&& y.toNat := by
  obtain ⟨a, rfl, ha⟩ := hx.nat
  obtain ⟨b, rfl, hb⟩ := hy.nat
  rw [and_u ha hb]
  have : a &&& b < 2 ^ 64 := Nat.and_lt_two_pow _ hb
  exact ⟨⟨by omega, by omega⟩, rfl⟩
theorem or_U {x y : Int} (hx : U x) (hy : U y) : U (Go.bits .or .u64 x y) ∧ (Go.bits .or .u64 x y).toNat = x.toNat ||| y.toNat := by
  obtain ⟨a, rfl, ha⟩ := hx.nat
  obtain ⟨b, rfl, hb⟩ := hy.nat
  rw [or_u ha hb]
  have : a ||| b < 2 ^ 64 := Nat.or_lt_two_pow ha hb
  exact ⟨⟨by omega, by omega⟩, rfl⟩
theorem and_l {x y : Int} (hx : U x) (hy : U y) : SubI (Go.bits .and .u64 x y) x := by
  intro i _ h
  rw [(and_U hx hy).2, Nat.testBit_and] at h
  simp at h
  exact h.1
theorem and_r {x y : Int} (hx : U x) (hy : U y) : SubI (Go.bits .and .u64 x y) y := by
  intro i _ h
  rw [(and_U hx hy).2, Nat.testBit_and] at h
  simp at h
  exact h.2
theorem and_glb {x y z : Int} (hx : U x) (hy : U y) (h1 : SubI z x) (h2 : SubI z y) : SubI z (Go.bits .and .u64 x y) := by
  intro i hi h
  rw [(and_U hx hy).2, Nat.testBit_and, h1 i hi h, h2 i hi h]
  rfl
theorem or_l {x y : Int} (hx : U x) (hy : U y) : SubI x (Go.bits .or .u64 x y) := by
  intro i _ h
  rw [(or_U hx hy).2, Nat.testBit_or, h]
  rfl
theorem or_r {x y : Int} (hx : U x) (hy : U y) : SubI y (Go.bits .or .u64 x y) := by
  intro i _ h
  rw [(or_U hx hy).2, Nat.testBit_or, h, Bool.or_true]
theorem or_lub {x y z : Int} (hx : U x) (hy : U y) (h1 : SubI x z) (h2 : SubI y z) : SubI (Go.bits .or .u64 x y) z := by
  intro i hi h
  rw [(or_U hx hy).2, Nat.testBit_or] at h
  cases hb : x.toNat.testBit i with
  | true => exact h1 i hi hb
  | false => rw [hb] at h; exact h2 i hi (by simpa using h)

theorem mn_l (x y : Int) : mn x y ≤ x := by unfold mn; split <;> omega
theorem mn_r (x y : Int) : mn x y ≤ y := by unfold mn; split <;> omega
theorem mn_glb {x y z : Int} (h : z ≤ x) (h' : z ≤ y) : z ≤ mn x y := by unfold mn; split <;> omega

theorem cov_refl (a : St) : Cov a a := ⟨rfl, by omega, by omega, by omega, by omega, sub_refl _, sub_refl _, sub_refl _⟩
theorem cov_trans {a b c : St} (h : Cov a b) (h' : Cov b c) : Cov a c := by
  obtain ⟨h0, h1, h2, h3, h4, h5, h6, h7⟩ := h
  obtain ⟨k0, k1, k2, k3, k4, k5, k6, k7⟩ := h'
  exact ⟨h0.trans k0, by omega, by omega, by omega, by omega, sub_trans h5 k5, sub_trans h6 k6, sub_trans k7 h7⟩
theorem cov_anti {a b : St} (ha : OK a) (hb : OK b) (h : Cov a b) (h' : Cov b a) : a = b := by
  obtain ⟨h0, h1, h2, h3, h4, h5, h6, h7⟩ := h
  obtain ⟨k0, k1, k2, k3, k4, k5, k6, k7⟩ := h'
  have e5 := sub_anti ha.1 hb.1 h5 k5
  have e6 := sub_anti ha.2.1 hb.2.1 k7 h7
  have e7 := sub_anti ha.2.2 hb.2.2 h6 k6
  cases a
  cases b
  simp only at *
  simp only [S24.mk.injEq]
  refine ⟨h0, by omega, by omega, by omega, by omega, e5, e6, e7⟩
theorem js_ok {s t : St} (hs : OK s) (ht : OK t) : OK (joinS s t) := ⟨(and_U hs.1 ht.1).1, (or_U hs.2.1 ht.2.1).1, (and_U hs.2.2 ht.2.2).1⟩
theorem js_l {s t : St} (hs : OK s) (ht : OK t) : Cov (joinS s t) s := ⟨rfl, mn_l _ _, mn_l _ _, mn_l _ _, mn_l _ _, and_l hs.1 ht.1, and_l hs.2.2 ht.2.2, or_l hs.2.1 ht.2.1⟩
theorem js_r {s t : St} (hs : OK s) (ht : OK t) (h : t.f0 = s.f0) : Cov (joinS s t) t := ⟨h.symm, mn_r _ _, mn_r _ _, mn_r _ _, mn_r _ _, and_r hs.1 ht.1, and_r hs.2.2 ht.2.2, or_r hs.2.1 ht.2.1⟩
theorem js_glb {s t c : St} (hs : OK s) (ht : OK t) (h : Cov c s) (h' : Cov c t) : Cov c (joinS s t) := by
  obtain ⟨h0, h1, h2, h3, h4, h5, h6, h7⟩ := h
  obtain ⟨k0, k1, k2, k3, k4, k5, k6, k7⟩ := h'
  exact ⟨h0, mn_glb h1 k1, mn_glb h2 k2, mn_glb h3 k3, mn_glb h4 k4, and_glb hs.1 ht.1 h5 k5, and_glb hs.2.2 ht.2.2 h6 k6, or_lub hs.2.1 ht.2.1 h7 k7⟩
def foldJ (l : List St) (s : St) : St := l.foldl joinS s
theorem foldJ_ok (l : List St) : ∀ {s : St}, OK s → (∀ t ∈ l, OK t) → OK (foldJ l s) := by
  induction l with
  | nil => intro s h _; exact h
  | cons x l ih => intro s h hl; exact ih (js_ok h (hl x (by simp))) (fun t ht => hl t (by simp [ht]))
theorem foldJ_lb (l : List St) : ∀ {s : St}, OK s → (∀ t ∈ l, OK t) → (∀ t ∈ l, t.f0 = s.f0) → Cov (foldJ l s) s ∧ ∀ t ∈ l, Cov (foldJ l s) t := by
  induction l with
  | nil => intro s h _ _; exact ⟨cov_refl _, by simp⟩
  | cons x l ih =>
    intro s h hl he
    have hx := hl x (by simp)
    have ⟨h1, h2⟩ := ih (js_ok h hx) (fun t ht => hl t (by simp [ht])) (fun t ht => he t (by simp [ht]))
    refine ⟨cov_trans h1 (js_l h hx), fun t ht => ?_⟩
    rcases List.mem_cons.1 ht with rfl | ht
    · exact cov_trans h1 (js_r h hx (he _ (by simp)))
    · exact h2 t ht
theorem foldJ_glb (l : List St) : ∀ {s c : St}, OK s → (∀ t ∈ l, OK t) → Cov c s → (∀ t ∈ l, Cov c t) → Cov c (foldJ l s) := by
  induction l with
  | nil => intro s c _ _ h _; exact h
  | cons x l ih =>
    intro s c h hl hs hc
    have hx := hl x (by simp)
    exact ih (js_ok h hx) (fun t ht => hl t (by simp [ht])) (js_glb h hx hs (hc x (by simp))) (fun t ht => hc t (by simp [ht]))

/-! Join. -/
def fin (l : List St) (s : St) : St × Bool := if (l.any fun t => t.f0 != s.f0) = true then (zeroS, false) else (foldJ l s, true)
def joinP : List St → St × Bool
  | [] => (zeroS, false)
  | x :: l => fin l x
def tup (q : St × Bool) : Int × Int × Int × Int × Int × Int × Int × Int × Bool := (q.1.f0, q.1.f1, q.1.f2, q.1.f3, q.1.f4, q.1.f5, q.1.f6, q.1.f7, q.2)
theorem step_fold (l : List St) : ∀ (s : St) (m : Int) (odd : Bool), 0 < m → l.foldl stepH (s, m, odd) = (foldJ l s, m + l.length, odd || l.any fun t => t.f0 != s.f0) := by
  induction l with
  | nil => intro s m odd h; simp [foldJ]
  | cons x l ih =>
    intro s m odd h
    have e : stepH (s, m, odd) x = (joinS s x, m + 1, odd || x.f0 != s.f0) := by unfold stepH; rw [if_neg (by simp only; omega)]
    rw [List.foldl_cons, e, ih _ _ _ (by omega)]
    have e0 : (joinS s x).f0 = s.f0 := rfl
    simp only [e0, List.any_cons, List.length_cons, Bool.or_assoc]
    refine Prod.ext rfl (Prod.ext ?_ rfl)
    simp only
    omega
theorem join_eq {l : List St} (hl : l.length ≤ 1000000000) : relax_Join.f l = some (tup (joinP l)) := by
  unfold relax_Join.f
  rw [if_pos hl]
  cases l with
  | nil => rfl
  | cons x l =>
    rw [if_neg (by simp)]
    have e : (x :: l).foldl stepH (zeroS, 0, false) = (foldJ l x, 1 + (l.length : Int), l.any fun t => t.f0 != x.f0) := by
      rw [List.foldl_cons]
      have e1 : stepH (zeroS, 0, false) x = (x, 1, false) := by unfold stepH; rw [if_pos rfl]
      rw [e1, step_fold _ _ _ _ (by omega)]
      simp
    rw [e]
    unfold joinP fin
    simp only
    by_cases h : (l.any fun t => t.f0 != x.f0) = true
    · rw [if_pos h, if_pos h]; rfl
    · rw [if_neg h, if_neg h]; rfl
theorem fin_all {l : List St} {s : St} : (l.any fun t => t.f0 != s.f0) = true ↔ ∃ t ∈ l, t.f0 ≠ s.f0 := by simp
/-- What Join finds: no ones, or ones at two places; or else the greatest that covers all. -/
theorem joinP_cases (l : List St) (h : ∀ t ∈ l, OK t) :
    (joinP l = (zeroS, false) ∧ (l = [] ∨ ∃ t ∈ l, ∃ u ∈ l, t.f0 ≠ u.f0)) ∨
    ((joinP l).2 = true ∧ l ≠ [] ∧ (∀ t ∈ l, ∀ u ∈ l, t.f0 = u.f0) ∧ OK (joinP l).1 ∧ (∀ t ∈ l, Cov (joinP l).1 t) ∧ (∀ c, (∀ t ∈ l, Cov c t) → Cov c (joinP l).1)) := by
  cases l with
  | nil => exact .inl ⟨rfl, .inl rfl⟩
  | cons x l =>
    by_cases hc : (l.any fun t => t.f0 != x.f0) = true
    · refine .inl ⟨by simp only [joinP, fin, if_pos hc], .inr ?_⟩
      obtain ⟨t, ht, hn⟩ := fin_all.1 hc
      exact ⟨t, by simp [ht], x, by simp, hn⟩
    · have e : joinP (x :: l) = (foldJ l x, true) := by simp only [joinP, fin, if_neg hc]
      have he : ∀ t ∈ l, t.f0 = x.f0 := fun t ht => Classical.byContradiction fun hn => hc (fin_all.2 ⟨t, ht, hn⟩)
      have hx := h x (by simp)
      have hl : ∀ t ∈ l, OK t := fun t ht => h t (by simp [ht])
      have ⟨b1, b2⟩ := foldJ_lb l hx hl he
      refine .inr ⟨by rw [e], by simp, ?_, by rw [e]; exact foldJ_ok l hx hl, ?_, fun c hc => ?_⟩
      · intro t ht u hu
        have ex : ∀ t ∈ x :: l, t.f0 = x.f0 := fun t ht => (List.mem_cons.1 ht).elim (fun e => by rw [e]) (he t)
        rw [ex t ht, ex u hu]
      · rw [e]
        intro t ht
        rcases List.mem_cons.1 ht with rfl | ht
        · exact b1
        · exact b2 t ht
      · rw [e]
        exact foldJ_glb l hx hl (hc x (by simp)) (fun t ht => hc t (by simp [ht]))
/-- Join asks only for who is there. -/
theorem joinP_same {l m : List St} (hl : ∀ t ∈ l, OK t) (h : ∀ t, t ∈ l ↔ t ∈ m) : joinP l = joinP m := by
  have hm : ∀ t ∈ m, OK t := fun t ht => hl t ((h t).2 ht)
  rcases joinP_cases l hl with ⟨e, c⟩ | ⟨e, n, s, o, b, g⟩ <;> rcases joinP_cases m hm with ⟨e', c'⟩ | ⟨e', n', s', o', b', g'⟩
  · rw [e, e']
  · exfalso
    rcases c with rfl | ⟨t, ht, u, hu, hn⟩
    · obtain ⟨x, hx⟩ := List.exists_mem_of_ne_nil _ n'
      exact absurd ((h x).2 hx) (by simp)
    · exact hn (s' t ((h t).1 ht) u ((h u).1 hu))
  · exfalso
    rcases c' with rfl | ⟨t, ht, u, hu, hn⟩
    · obtain ⟨x, hx⟩ := List.exists_mem_of_ne_nil _ n
      exact absurd ((h x).1 hx) (by simp)
    · exact hn (s t ((h t).2 ht) u ((h u).2 hu))
  · refine Prod.ext ?_ (by rw [e, e'])
    exact cov_anti o o' (g' _ (fun t ht => b t ((h t).2 ht))) (g _ (fun t ht => b' t ((h t).1 ht)))

/-! Covers. -/
theorem within_eq {x y : Int} (hx : U x) (hy : U y) : set_Within.f x y = some (decide (SubI x y)) := by
  obtain ⟨a, rfl, ha⟩ := hx.nat
  obtain ⟨b, rfl, hb⟩ := hy.nat
  unfold set_Within.f
  rw [andNot_u a b]
  rfl
theorem covers_eq {a b : St} (ha : OK a) (hb : OK b) : relax_Covers.f a.f0 a.f1 a.f2 a.f3 a.f4 a.f5 a.f6 a.f7 b.f0 b.f1 b.f2 b.f3 b.f4 b.f5 b.f6 b.f7 = some (decide (Cov a b)) := by
  unfold relax_Covers.f Cov
  rw [within_eq ha.1 hb.1, within_eq ha.2.2 hb.2.2, within_eq hb.2.1 ha.2.1]
  simp only [Option.bind_some, decide_eq_true_eq]
  by_cases h0 : a.f0 = b.f0 <;> by_cases h1 : a.f1 ≤ b.f1 <;> by_cases h2 : a.f2 ≤ b.f2 <;> by_cases h3 : a.f3 ≤ b.f3 <;> by_cases h5 : SubI a.f5 b.f5 <;> by_cases h6 : SubI a.f7 b.f7 <;> by_cases h7 : SubI b.f6 a.f6 <;> simp [h0, h1, h2, h3, h5, h6, h7]
theorem rwithin_ev {x y : Int} (hx : U x) (hy : U y) : Ev (fun k => haulierref02_Within.f k x y) (decide (SubI x y)) := by
  obtain ⟨a, rfl, ha⟩ := hx.nat
  obtain ⟨b, rfl, hb⟩ := hy.nat
  exact within_ev ha hb
theorem rcovers_ev {a b : St} (ha : OK a) (hb : OK b) : Ev (fun k => haulierref11_Covers.f k a.f0 a.f1 a.f2 a.f3 a.f4 a.f5 a.f6 a.f7 b.f0 b.f1 b.f2 b.f3 b.f4 b.f5 b.f6 b.f7) (decide (Cov a b)) := by
  simp only [haulierref11_Covers.f]
  refine Ev.bind (rwithin_ev ha.1 hb.1) (Ev.bind (rwithin_ev ha.2.2 hb.2.2) (Ev.bind (rwithin_ev hb.2.1 ha.2.1) ?_))
  refine Ev.congr (f := fun _ => some (decide (Cov a b))) (fun k => ?_) (Ev.now _)
  unfold Cov
  by_cases h0 : a.f0 = b.f0 <;> by_cases h1 : a.f1 ≤ b.f1 <;> by_cases h2 : a.f2 ≤ b.f2 <;> by_cases h3 : a.f3 ≤ b.f3 <;> by_cases h4 : a.f4 ≤ b.f4 <;> by_cases h5 : SubI a.f5 b.f5 <;> by_cases h6 : SubI a.f7 b.f7 <;> simp [h0, h1, h2, h3, h4, h5, h6]

/-! The document's Join. -/
theorem least_eq (x y : Int) : haulierref11_least.f x y = some (mn x y) := by
  unfold haulierref11_least.f mn
  by_cases h : x < y
  · rw [if_pos h]; split <;> first | rfl | omega
  · rw [if_neg h]; split <;> first | rfl | (congr 1; omega)
theorem rand_ev {x y : Int} (hx : U x) (hy : U y) : Ev (fun k => haulierref02_And.f k x y) (Go.bits .and .u64 x y) := by
  obtain ⟨a, rfl, ha⟩ := hx.nat
  obtain ⟨b, rfl, hb⟩ := hy.nat
  rw [and_u ha hb]
  exact and_ev ha hb
theorem ror_ev {x y : Int} (hx : U x) (hy : U y) : Ev (fun k => haulierref02_Or.f k x y) (Go.bits .or .u64 x y) := by
  obtain ⟨a, rfl, ha⟩ := hx.nat
  obtain ⟨b, rfl, hb⟩ := hy.nat
  rw [or_u ha hb]
  exact or_ev ha hb
theorem rdT_nat (l : List St) (i : Nat) (h : i < l.length) : rd_T24 l (i : Int) = l[i] := by
  unfold rd_T24
  simp [h]
theorem rjoin_loop (l : List St) (hl : l.length ≤ 64) (ho : ∀ t ∈ l, OK t) (d : Nat) : ∀ (i : Nat) (s : St), i + d = l.length → OK s →
    Ev (fun k => haulierref11_Join.l0 k l (i : Int) s.f0 s.f1 s.f2 s.f3 s.f4 s.f5 s.f6 s.f7) (tup (fin (l.drop i) s)) := by
  induction d with
  | zero =>
    intro i s hi hs
    refine Ev.step (f := fun _ => some (tup (s, true))) (fun k => ?_) ?_
    · simp only [haulierref11_Join.l0]; rw [if_neg (by omega)]; rfl
    · rw [List.drop_of_length_le (by omega)]; exact Ev.now _
  | succ d ih =>
    intro i s hi hs
    have hlt : i < l.length := by omega
    have hx := ho l[i] (List.getElem_mem _)
    rw [List.drop_eq_getElem_cons hlt]
    apply Ev.succ
    simp only [haulierref11_Join.l0]
    have h1 : (i : Int) < (l.length : Int) := by omega
    have h2 : 0 ≤ (i : Int) := by omega
    simp only [if_pos h1, if_pos h2, nxt (show i < 100 by omega), rdT_nat l i hlt, least_eq, Option.bind_some]
    by_cases he : l[i].f0 = s.f0
    · simp only [if_pos he]
      have e : fin (l[i] :: l.drop (i + 1)) s = fin (l.drop (i + 1)) (joinS s l[i]) := by
        have e0 : (joinS s l[i]).f0 = s.f0 := rfl
        unfold fin
        simp only [List.any_cons, e0, he, bne_self_eq_false, Bool.false_or]
        rfl
      rw [e]
      refine Ev.bind (rand_ev hs.1 hx.1) (Ev.bind (ror_ev hs.2.1 hx.2.1) (Ev.bind (rand_ev hs.2.2 hx.2.2) ?_))
      exact ih (i + 1) (joinS s l[i]) (by omega) (js_ok hs hx)
    · simp only [if_neg he]
      have e : fin (l[i] :: l.drop (i + 1)) s = (zeroS, false) := by
        unfold fin
        rw [if_pos (fin_all.2 ⟨l[i], .head _, he⟩)]
      rw [e]
      exact Ev.now _
theorem rjoin_ev (l : List St) (hl : l.length ≤ 64) (ho : ∀ t ∈ l, OK t) : Ev (fun k => haulierref11_Join.f k l) (tup (joinP l)) := by
  simp only [haulierref11_Join.f]
  cases l with
  | nil => simp only [List.length_nil]; exact Ev.now _
  | cons x l =>
    have h1 : ¬ (((x :: l).length : Int) = 0) := by rw [List.length_cons]; omega
    have h2 : 0 < ((x :: l).length : Int) := by rw [List.length_cons]; omega
    simp only [if_neg h1, if_pos h2]
    have e : rd_T24 (x :: l) 0 = x := rfl
    rw [e]
    exact rjoin_loop (x :: l) hl ho l.length 1 x (by simp; omega) (ho x (by simp))
theorem awake_eq : haulierlaw11_awake.f = some true := by decide
theorem tup_eqb (p q : St × Bool) : ((tup p).1 == (tup q).1 && ((tup p).2.1 == (tup q).2.1 && ((tup p).2.2.1 == (tup q).2.2.1 && ((tup p).2.2.2.1 == (tup q).2.2.2.1 && ((tup p).2.2.2.2.1 == (tup q).2.2.2.2.1 && ((tup p).2.2.2.2.2.1 == (tup q).2.2.2.2.2.1 && ((tup p).2.2.2.2.2.2.1 == (tup q).2.2.2.2.2.2.1 && ((tup p).2.2.2.2.2.2.2.1 == (tup q).2.2.2.2.2.2.2.1)))))))) = true ↔ p.1 = q.1 := by
  obtain ⟨⟨a0, a1, a2, a3, a4, a5, a6, a7⟩, x⟩ := p
  obtain ⟨⟨b0, b1, b2, b3, b4, b5, b6, b7⟩, y⟩ := q
  simp [tup]
end Go.Proofs.Ytkcdpnigcbcalaa.Rel
