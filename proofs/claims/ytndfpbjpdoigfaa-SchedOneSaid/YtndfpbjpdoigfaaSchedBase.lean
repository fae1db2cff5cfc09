import Derived.Test.YtndfpbjpdoigfaaMayBase
import Derived.Test.YtndfpbjpdoigfaaRootBase
import Derived.Test.YtndfpbjpdoigfaaPAx5
import Derived.Test.YtndfpbjpdoigfaaPAx3
import Derived.Test.YtndfpbjpdoigfaaPAx8
/-! What a route of one pair comes to: the program's own answer, in plain words. -/
namespace Go.Proofs.Ytndfpbjpdoigfaa.Sched
open Go.RowKit Go.Proofs.YtndfpbjpdoigfaaW.PrintWords Go.Proofs.YtndfpbjpdoigfaaW.PrintLast Go.Proofs.Ytndfpbjpdoigfaa.PA Go.Proofs.Ytndfpbjpdoigfaa.Inst
set_option linter.unusedVariables false
theorem awake_ev : Ev (fun k => haulierlaw07_awake.f k) true := Ev.of haulierlaw07_awake.mono (k := 30) (by decide +kernel)
/-- The set with one stop. -/
def oneF (i : Nat) : Int := (set_With.f 0 (i : Int)).getD 0
theorem sets_ : ∀ i : Fin 17, ∀ p : Fin 17, 1 ≤ i.val → i.val ≤ p.val →
    set_Has.f 0 (i.val : Int) = some false ∧ set_Has.f 0 ((i.val : Int) - (p.val : Int)) = some false ∧ set_With.f 0 (i.val : Int) = some (oneF i.val) ∧
    set_Has.f (oneF i.val) ((i.val + p.val : Nat) : Int) = some false ∧ set_Has.f (oneF i.val) (((i.val + p.val : Nat) : Int) - (p.val : Int)) = some true ∧ (set_With.f (oneF i.val) ((i.val + p.val : Nat) : Int)).isSome = true ∧
    set_Without.f (oneF i.val) (((i.val + p.val : Nat) : Int) - (p.val : Int)) = some 0 := by decide +kernel
structure Sets (i p : Nat) : Prop where
  h1 : set_Has.f 0 (i : Int) = some false
  h2 : set_Has.f 0 ((i : Int) - (p : Int)) = some false
  w1 : set_With.f 0 (i : Int) = some (oneF i)
  h3 : set_Has.f (oneF i) ((i + p : Nat) : Int) = some false
  h4 : set_Has.f (oneF i) (((i + p : Nat) : Int) - (p : Int)) = some true
  w2 : ∃ s, set_With.f (oneF i) ((i + p : Nat) : Int) = some s
  o2 : set_Without.f (oneF i) (((i + p : Nat) : Int) - (p : Int)) = some 0
theorem sets {i p : Nat} (h1 : 1 ≤ i) (h2 : i ≤ p) (h3 : p ≤ 16) : Sets i p := by
  obtain ⟨a, b, c, d, e, f, g⟩ := sets_ ⟨i, by omega⟩ ⟨p, by omega⟩ h1 h2
  exact ⟨a, b, c, d, e, Option.isSome_iff_exists.1 f, g⟩
/-- How far it is. -/
def farI (a b : St) : Int := Go.Proofs.Ytndfpbjpdoigfaa.Num.farZ a.f0 a.f1 b.f0 b.f1
theorem far_eq (a b : St) : Go.Proofs.Ytndfpbjpdoigfaa.PA.farS a b = some (farI a b) := Go.Proofs.Ytndfpbjpdoigfaa.Num.far_f _ _ _ _ _ _ _ _ _ _ _ _
theorem far_bd (a b : St) : 0 ≤ farI a b ∧ farI a b ≤ 14143 := ⟨(Go.Proofs.Ytndfpbjpdoigfaa.Num.farZ_spec _ _ _ _).1, (Go.Proofs.Ytndfpbjpdoigfaa.Num.farZ_spec _ _ _ _).2.1⟩
/-- What holds of a stop's numbers. -/
structure Nums (s : St) : Prop where
  r0 : 0 ≤ s.f3
  r1 : s.f3 ≤ s.f4
  r2 : s.f4 ≤ 1048576
  v0 : 0 ≤ s.f5
  v1 : s.f5 ≤ 1000
theorem nums {p c r : Int} {l : List St} (h : mayB p c r l = true) (j : Nat) (hj : j < l.length) : Nums l[j] := by
  have hs := (may_get h j hj).1
  unfold stopB at hs
  have := of_decide_eq_true hs
  exact ⟨by omega, by omega, by omega, by omega, by omega⟩
/-- The stops of a pair and the yard, and what the pair takes. -/
structure Pair (p r : Int) (l : List St) (i : Nat) (s a b : St) : Prop where
  i1 : 1 ≤ i
  ip : (i : Int) ≤ p
  p16 : p ≤ 16
  len : (l.length : Int) = 2 * p + 1
  hs : l[0]? = some s
  ha : l[i]? = some a
  hb : l[i + p.toNat]? = some b
  ns : Nums s
  na : Nums a
  nb : Nums b
  d1 : 1 ≤ a.f2
  d2 : a.f2 ≤ 1000
  d3 : b.f2 = -a.f2
  room : 1 ≤ r
  room2 : r ≤ 1000
theorem pair_of {p c r : Int} {l : List St} (h : mayB p c r l = true) {i : Nat} (h1 : 1 ≤ i) (h2 : (i : Int) ≤ p) : ∃ s a b, Pair p r l i s a b := by
  have hh := may_head h
  have e0 : 0 < l.length := by omega
  have e1 : i < l.length := by omega
  have e2 : i + p.toNat < l.length := by omega
  have da := (may_get h i e1).2
  have db := (may_get h _ e2).2
  unfold demB at da db
  rw [if_neg (by omega), if_pos h2] at da
  rw [if_neg (by omega), if_neg (by omega)] at db
  have da := of_decide_eq_true da
  have db := of_decide_eq_true db
  have e3 : (((i + p.toNat : Nat) : Int) - p) = (i : Int) := by omega
  rw [e3, w64 (x := (i : Int)) (by omega) (by omega), rdS_at e1, w64 (by omega) (by omega)] at db
  exact ⟨l[0], l[i], l[i + p.toNat], h1, h2, by omega, by omega, List.getElem?_eq_getElem _, List.getElem?_eq_getElem _, List.getElem?_eq_getElem _, nums h _ _, nums h _ _, nums h _ _, da.1, da.2, db, by omega, by omega⟩
/-- The car's times on the route of a pair. -/
def bg1 (s a : St) : Int := if s.f3 + farI s a < a.f3 then a.f3 else s.f3 + farI s a
def bg2 (s a b : St) : Int := if bg1 s a + a.f5 + farI a b < b.f3 then b.f3 else bg1 s a + a.f5 + farI a b
def endF (r : Int) (s a b : St) : Int := if r < a.f2 then 6 else if a.f4 < bg1 s a then 7 else if b.f4 < bg2 s a b then 7 else if s.f4 < bg2 s a b + b.f5 + farI b s then 7 else 0
theorem visF_at {p rm : Int} {l : List St} {c : Cs} {i : Nat} {s x : St} {b1 b2 : Bool} (hs : l[c.at_]? = some s) (hx : l[i]? = some x) (h1 : 1 ≤ i) (h2 : (i : Int) ≤ 2 * p) (hp : p ≤ 1000000) (hl1 : c.ts.length ≤ 1000) (hl2 : c.ls.length ≤ 1000)
    (hb1 : set_Has.f c.seen (i : Int) = some b1) (hb2 : set_Has.f c.seen ((i : Int) - p) = some b2) :
    visF p rm l c i = if visE p rm c.load x.f2 i b1 b2 ≠ 0 then some (visE p rm c.load x.f2 i b1 b2, c) else
      if x.f4 < begF (wrap64 (c.now + farI s x)) x.f3 then some (7, c)
      else (set_With.f c.seen (i : Int)).bind fun sw => (if (i : Int) ≤ p then set_With.f c.on (i : Int) else set_Without.f c.on ((i : Int) - p)).bind fun on1 =>
        some (0, ⟨i, wrap64 (begF (wrap64 (c.now + farI s x)) x.f3 + x.f5), wrap64 (c.far + farI s x), wrap64 (c.load + x.f2), sw, on1, c.ts ++ [⟨wrap64 (c.now + farI s x), begF (wrap64 (c.now + farI s x)) x.f3, wrap64 (begF (wrap64 (c.now + farI s x)) x.f3 + x.f5)⟩], c.ls ++ [wrap64 (c.load + x.f2)]⟩) := by
  obtain ⟨q1, rfl⟩ := List.getElem?_eq_some_iff.1 hs
  obtain ⟨q2, rfl⟩ := List.getElem?_eq_some_iff.1 hx
  unfold visF
  rw [dif_pos ⟨q1, q2, h1, h2, hp, hl1, hl2⟩, hb1, hb2]
  simp only [Option.bind_some, far_eq]
theorem visE1 {p r d : Int} {i : Nat} {b : Bool} (h : (i : Int) ≤ p) (h1 : 0 ≤ d) (h2 : d ≤ 1000) : visE p r 0 d i false b = if r < d then 6 else 0 := by
  unfold visE
  rw [if_neg Bool.false_ne_true, if_neg (fun h3 => by omega), Int.zero_add, w64 (by omega) (by omega)]
theorem visE2 {p r d : Int} {i : Nat} (h : 1 ≤ r) : visE p r d (-d) i false true = 0 := by
  unfold visE
  rw [if_neg Bool.false_ne_true, if_neg (fun h3 => by cases h3.2), show d + -d = 0 by omega, w64 (x := 0) (by decide) (by decide), if_neg (by omega)]
theorem run_eq {p r : Int} {l : List St} {i : Nat} {s a b : St} (h : Pair p r l i s a b) : ∃ far ts, runF p r l i (i + p.toNat) = some (endF r s a b, far, ts) ∧
    (endF r s a b = 0 → far = farI s a + farI a b + farI b s ∧ ∃ t1 t2 : S36, ts = [t1, t2] ∧ t1.f1 = bg1 s a ∧ t2.f1 = bg2 s a b) := by
  obtain ⟨n, rfl⟩ : ∃ n : Nat, p = (n : Int) := ⟨p.toNat, by have := h.ip; omega⟩
  rw [Int.toNat_natCast]
  have hS := sets (i := i) (p := n) h.i1 (by have := h.ip; omega) (by have := h.p16; omega)
  have hb := h.hb
  rw [Int.toNat_natCast] at hb
  have hip := h.ip
  have hp := h.p16
  have i1 := h.i1
  have ns := h.ns
  have na := h.na
  have nb := h.nb
  have f1 := far_bd s a
  have f2 := far_bd a b
  have f3 := far_bd b s
  have d1 := h.d1
  have d2 := h.d2
  have d3 := h.d3
  have hroom := h.room
  have h0 : 0 < l.length := by have := h.len; omega
  have hl0 : l[0] = s := (List.getElem?_eq_some_iff.1 h.hs).2
  have ns0 := ns.r0; have ns1 := ns.r1; have ns2 := ns.r2
  have na0 := na.r0; have na1 := na.r1; have na2 := na.r2; have na3 := na.v0; have na4 := na.v1
  have nb0 := nb.r0; have nb1 := nb.r1; have nb2 := nb.r2; have nb3 := nb.v0; have nb4 := nb.v1
  have v1 := visF_at (p := (n : Int)) (rm := r) (c := c0F l h0) (b1 := false) (b2 := false) h.hs h.ha i1 (by omega) (by omega) (by simp [c0F]) (by simp [c0F]) hS.h1 hS.h2
  rw [show (c0F l h0).load = 0 from rfl, visE1 hip (by omega) d2] at v1
  have e1 : begF (wrap64 ((c0F l h0).now + farI s a)) a.f3 = bg1 s a := by
    rw [show (c0F l h0).now = s.f3 from congrArg (·.f3) hl0, w64 (by omega) (by omega)]; rfl
  rw [e1] at v1
  unfold runF
  rw [dif_pos h0]
  by_cases hr : r < a.f2
  · have e : endF r s a b = 6 := by unfold endF; rw [if_pos hr]
    rw [if_pos hr, if_pos (by decide)] at v1
    rw [v1, e]
    exact ⟨0, [], rfl, fun h => absurd h (by decide)⟩
  rw [if_neg hr, if_neg (fun h => h rfl)] at v1
  by_cases hd : a.f4 < bg1 s a
  · have e : endF r s a b = 7 := by unfold endF; rw [if_neg hr, if_pos hd]
    rw [if_pos hd] at v1
    rw [v1, e]
    exact ⟨0, [], rfl, fun h => absurd h (by decide)⟩
  have g1 : s.f3 + farI s a ≤ bg1 s a := by unfold bg1; split <;> omega
  rw [if_neg hd, show (c0F l h0).seen = 0 from rfl, show (c0F l h0).on = 0 from rfl, if_pos hip, hS.w1, Option.bind_some, Option.bind_some, show (c0F l h0).far = 0 from rfl, Int.zero_add, Int.zero_add, w64 (x := farI s a) (by omega) (by omega), w64 (x := a.f2) (by omega) (by omega), w64 (x := bg1 s a + a.f5) (by omega) (by omega)] at v1
  obtain ⟨c1, hc1⟩ : ∃ c : Cs, c = ⟨i, bg1 s a + a.f5, farI s a, a.f2, oneF i, oneF i, (c0F l h0).ts ++ [⟨wrap64 ((c0F l h0).now + farI s a), bg1 s a, bg1 s a + a.f5⟩], (c0F l h0).ls ++ [a.f2]⟩ := ⟨_, rfl⟩
  rw [← hc1] at v1
  have k1 : c1.at_ = i := by rw [hc1]
  have k2 : c1.now = bg1 s a + a.f5 := by rw [hc1]
  have k3 : c1.far = farI s a := by rw [hc1]
  have k4 : c1.load = a.f2 := by rw [hc1]
  have k5 : c1.seen = oneF i := by rw [hc1]
  have k6 : c1.on = oneF i := by rw [hc1]
  have k7 : ∃ t, c1.ts = [t] ∧ t.f1 = bg1 s a := by rw [hc1]; exact ⟨_, rfl, rfl⟩
  have k8 : c1.ls.length ≤ 1000 := by rw [hc1]; simp [c0F]
  clear hc1 e1
  obtain ⟨t1, k7, k9⟩ := k7
  rw [v1]
  show ∃ far ts, (if (0 : Int) ≠ 0 then some ((0 : Int), (0 : Int), []) else rest2 (n : Int) r l (i + n) c1) = some (endF r s a b, far, ts) ∧ _
  rw [if_neg (fun h => h rfl)]
  have v2 := visF_at (p := (n : Int)) (rm := r) (c := c1) (i := i + n) (b1 := false) (b2 := true) (by rw [k1]; exact h.ha) hb (by omega) (by omega) (by omega) (by rw [k7, List.length_singleton]; omega) k8 (by rw [k5]; exact hS.h3) (by rw [k5]; exact hS.h4)
  rw [k4, d3, visE2 hroom, if_neg (fun h => h rfl), k2, k3, k5, k6, w64 (x := bg1 s a + a.f5 + farI a b) (by omega) (by omega), show begF (bg1 s a + a.f5 + farI a b) b.f3 = bg2 s a b from rfl] at v2
  unfold rest2
  by_cases hd2 : b.f4 < bg2 s a b
  · have e : endF r s a b = 7 := by unfold endF; rw [if_neg hr, if_neg hd, if_pos hd2]
    rw [if_pos hd2] at v2
    rw [v2, e]
    exact ⟨0, [], rfl, fun h => absurd h (by decide)⟩
  have g2 : bg1 s a + a.f5 + farI a b ≤ bg2 s a b := by unfold bg2; split <;> omega
  obtain ⟨sw, hsw⟩ := hS.w2
  rw [if_neg hd2, hsw, if_neg (by omega), hS.o2, Option.bind_some, Option.bind_some, w64 (x := farI s a + farI a b) (by omega) (by omega), w64 (x := bg2 s a b + b.f5) (by omega) (by omega)] at v2
  rw [v2]
  show ∃ far ts, (if (0 : Int) ≠ 0 then some ((0 : Int), (0 : Int), []) else rest3 l _) = some (endF r s a b, far, ts) ∧ _
  rw [if_neg (fun h => h rfl)]
  unfold rest3 homF
  obtain ⟨q1, q2⟩ := List.getElem?_eq_some_iff.1 hb
  rw [dif_pos ⟨q1, h0⟩]
  simp only [q2, hl0, far_eq, Option.bind_some]
  simp only [if_true]
  rw [w64 (x := bg2 s a b + b.f5 + farI b s) (by omega) (by omega), w64 (x := farI s a + farI a b + farI b s) (by omega) (by omega)]
  by_cases hd3 : s.f4 < bg2 s a b + b.f5 + farI b s
  · have e : endF r s a b = 7 := by unfold endF; rw [if_neg hr, if_neg hd, if_neg hd2, if_pos hd3]
    rw [if_pos hd3, if_pos (by decide), e]
    exact ⟨0, [], rfl, fun h => absurd h (by decide)⟩
  · have e : endF r s a b = 0 := by unfold endF; rw [if_neg hr, if_neg hd, if_neg hd2, if_neg hd3]
    rw [if_neg hd3, if_neg (fun h => h rfl), e]
    refine ⟨_, _, rfl, fun _ => ⟨rfl, t1, ⟨bg1 s a + a.f5 + farI a b, bg2 s a b, bg2 s a b + b.f5⟩, ?_, k9, rfl⟩⟩
    rw [k7]; rfl
end Go.Proofs.Ytndfpbjpdoigfaa.Sched
