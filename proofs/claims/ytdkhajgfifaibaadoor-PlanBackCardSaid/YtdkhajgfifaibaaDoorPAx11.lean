-- Printed for this claim by wip/tools/xprint.py over the kit's print; the contracts marked BY HAND are this session's own.
import Derived.Test.YtdkhajgfifaibaaDoorPAx0
import Derived.Test.YtdkhajgfifaibaaDoorPAx7
import Derived.Test.YtdkhajgfifaibaaDoorPAx9
import Derived.Test.YtdkhajgfifaibaaDoorPAx10
namespace Go.Proofs.YtdkhajgfifaibaaDoor.PA
open Go.RowKit Go.Proofs.YtdkhajgfifaibaaDoorW.PrintWords Go.Proofs.YtdkhajgfifaibaaDoorW.PrintLast Go.Proofs.YtdkhajgfifaibaaDoorW.PrintMore
attribute [local go_sem] max2_int min2_int max_two min_two max_three min_three max_four min_four   -- for this text's walks alone
set_option linter.unusedVariables false
set_option linter.unusedSimpArgs false

/-! ### sched_car_home: function 58, BY HAND -/
set_option maxHeartbeats 8000000 in
set_option maxRecDepth 100000 in
theorem home_r (g : Nat) (p cs rm : Int) (ad : Addr) (sc : Nat) (stops : List S58) (a : Nat) (now far load seen on : Int) (vt vl : Value) (dd : Int) (w : World) (ha : a < stops.length) (h0 : 0 < stops.length)
    (hg : w.heap[g]? = some (.cells #[.int .i64 p, .int .i64 cs, .int .i64 rm, .slice (some ad) stops.length sc, .int .i64 (a : Int), .int .i64 now, .int .i64 far, .int .i64 load, .int .u64 seen, .int .u64 on, vt, vl] 84 (0, 0))) (hr : Kd.C k58 w (some ad) stops.length stops) (hne : ad.block ≠ g) (hd : plane_Far.f stops[a].f0 stops[a].f1 stops[a].f2 stops[a].f3 stops[a].f4 stops[a].f5 stops[0].f0 stops[0].f1 stops[0].f2 stops[0].f3 stops[0].f4 stops[0].f5 = some dd) :
    Calls Tryd.prog 58 #[.pointer (some ⟨g, 0, none⟩)] w fun e w' => e = .returned (.int .i64 (if on = 0 then (if stops[0].f4 < wrap64 (now + dd) then 7 else 0) else 8)) ∧ (on = 0 → w'.heap[g]? = some (.cells #[.int .i64 p, .int .i64 cs, .int .i64 rm, .slice (some ad) stops.length sc, .int .i64 0, .int .i64 now, .int .i64 (wrap64 (far + dd)), .int .i64 load, .int .u64 seen, .int .u64 on, vt, vl] 84 (0, 0))) ∧ w.grownBy w' (some g) := by
  have HNE := hidK hne
  have HG := hidK hg
  have HR := hidK hr
  have HI := hidK (show Stop6 w ad stops 0 h0 by obtain ⟨ad2, e, h⟩ := stop6 hr 0 h0; obtain rfl := Option.some.inj e; exact h)
  have HI4 := hidK (show w.cell? ⟨ad.block, ad.off + 4, none⟩ = some (.int .i64 stops[0].f4) by have h := HI.out.2.2.2.2.1; rwa [add_z ad] at h)
  have HD := hidK hd
  have hmax := Kd.C_max hr
  have c9 := blk_cell hg 9
  clear hg hr hd hne
  have q4 : (0 : Int) < (stops.length : Int) := by omega
  by_cases hon : on = 0
  · subst hon
    rw [if_pos rfl]
    go_enter Tryd.func58, Tryd.ntmps58
    go_wp2
    refine start_ (n := 11) (S := fun w' => w'.cell? ⟨g, 3, none⟩ = some (.slice (some ad) stops.length sc) ∧ w'.cell? ⟨ad.block, ad.off + 4, none⟩ = some (.int .i64 stops[0].f4)) (ds := []) (zqB 11 0) (by kernel_rfl) rfl rfl (⟨blk_cell HG.out 3, HI4.out⟩) (fun hHeld => ?_)
    refine zqp 0 (some 8) (zqB 11 1) (by kernel_rfl) (h := ?_)
    refine zqp 2 (some 10) (zqB 11 5) (by kernel_rfl) (h := ?_)
    refine zqp 3 (some 11) (zqB 11 13) (by kernel_rfl) (h := ?_)
    refine zqp 4 (some 12) (zqB 11 29) (by kernel_rfl) (h := ?_)
    refine zqp 5 (some 13) (zqB 11 61) (by kernel_rfl) (h := ?_)
    refine zqt 6 (some 14) (zqB 11 125) (by kernel_rfl) hHeld (h := ?_)
    refine zqp 7 (some 15) (zqB 11 253) (by kernel_rfl) (h := ?_)
    refine zqp 8 (some 16) (zqB 11 509) (by kernel_rfl) (h := ?_)
    refine zqt 9 (some 17) (zqB 11 1021) (by kernel_rfl) hHeld (h := ?_)
    refine one_ (i := 1) (N := some 9) (zqB 11 1023) rfl rfl (by kernel_rfl) (by decide) (fun K hK => ?_)
    refine goes_ Tryd.func62 (by kernel_rfl) rfl #[.pointer (some ⟨g, 0, none⟩), .int .i64 0] (by rfl) rfl rfl (by first | rfl | (simp only [List.map_toArray, List.map_cons, List.map_nil]; rfl)) ?_
    refine (drive_r g p cs rm ad sc stops a 0 now far load seen 0 vt vl dd _ ha h0 (blk_drew HG.out) (Kd.C_drew HR.out) HD.out).mono ?_
    rintro e w1 ⟨rfl, hb, hgr⟩
    refine ⟨_, rfl, ?_⟩
    have HG1 := hidK (show w1.heap[g]? = some (.cells #[.int .i64 p, .int .i64 cs, .int .i64 rm, .slice (some ad) stops.length sc, .int .i64 0, .int .i64 now, .int .i64 (wrap64 (far + dd)), .int .i64 load, .int .u64 seen, .int .u64 0, vt, vl] 84 (0, 0)) from hb)
    have HGR := hidK (show w.grownBy w1 (some g) from ⟨hgr.os, hgr.tape, hgr.output, hgr.size, hgr.block⟩)
    refine hK.out _ _ ⟨blk_cell hb 3, (World.cell?_of_block (hgr.block _ (World.block_lt_of_cell? _ _ hHeld.2) (fun e => HNE.out (Option.some.inj e)))).trans hHeld.2⟩ (fun hHeld => ?_)
    clear hK K hb hgr
    refine norm_ (a' := ?_) ?_ ?_
    rotate_left
    · show Act.put _ _ _ = _
      simp only [Act.put, List.setIfInBounds_toArray, List.set_cons_zero, List.set_cons_succ, i64_w, i32_w]
      rfl
    refine zqp 10 (some 18) (zqB 11 2047) (by kernel_rfl) (h := ?_)
    refine done_ (by kernel_rfl) ?_
    by_cases hl : stops[0].f4 < wrap64 (now + dd)
    · have dl : decide (stops[0].f4 < wrap64 (now + dd)) = true := decide_eq_true hl
      go_wp2
      all_goals (go_ret; exact ⟨by simp [hl], by first | exact fun _ => HG1.out | exact HG1.out, HGR.out⟩)
    · have dl : decide (stops[0].f4 < wrap64 (now + dd)) = false := decide_eq_false hl
      go_wp2
      all_goals (go_ret; exact ⟨by simp [hl], by first | exact fun _ => HG1.out | exact HG1.out, HGR.out⟩)
  · have hb : (on != 0) = true := bne_iff_ne.mpr hon
    go_enter Tryd.func58, Tryd.ntmps58
    go_wp2
    all_goals (go_ret; first | exact ⟨by simp [hon], fun h => absurd h hon, ⟨rfl, rfl, rfl, Nat.le_refl _, fun _ _ _ => rfl⟩⟩ | exact ⟨rfl, ⟨rfl, rfl, rfl, Nat.le_refl _, fun _ _ _ => rfl⟩⟩)

/-! ### sched_run: function 47, BY HAND -/
theorem visit_v (w0 : World) (base g : Nat) (p cs rm : Int) (ad : Addr) (sc : Nat) (stops : List S58) (a i : Nat) (now far load seen on : Int) (vt vl : Value) (ts : List S100) (ls : List Int) (b1 b2 : Bool) (w : World) (hi : i < stops.length) (h1 : 1 ≤ i) (h2 : (i : Int) ≤ 2 * p) (hp : p ≤ 1000000)
    (hc : CarAt w0 base g #[.int .i64 p, .int .i64 cs, .int .i64 rm, .slice (some ad) stops.length sc, .int .i64 (a : Int), .int .i64 now, .int .i64 far, .int .i64 load, .int .u64 seen, .int .u64 on, vt, vl] vt vl ts ls w) (hr : Kd.C k58 w (some ad) stops.length stops) (hb1 : set_Has.f seen (i : Int) = some b1) (hb2 : set_Has.f seen ((i : Int) - p) = some b2) (v : Int) (hv0 : v ≠ 0) (hE : visE p rm load stops[i].f2 i b1 b2 = v) :
    Calls Tryd.prog 57 #[.pointer (some ⟨g, 0, none⟩), .int .i64 (i : Int)] w fun e w' => e = .returned (.int .i64 v) ∧ Below base w0 w' := by
  have HC := hidK hc
  have hv := (visits_r g p cs rm ad sc stops i (a : Int) now far load seen on vt vl b1 b2 w hi h1 h2 hp hc.hg hr hb1 hb2)
  rw [hE] at hv
  have HV := hidK hv
  have hbv : (v != 0) = true := bne_iff_ne.mpr hv0
  clear hv hc hr hb1 hb2 hE
  go_enter Tryd.func57, Tryd.ntmps57
  go_wp2_with (go_at_call 61; (with_reducible refine HV.out.mono ?_); rintro e_ w1 ⟨rfl, ⟨n1, rfl⟩⟩)
  all_goals (go_ret; exact ⟨rfl, (HC.out.drewN n1).hb⟩)
set_option maxHeartbeats 8000000 in
set_option maxRecDepth 100000 in
theorem visit_l (w0 : World) (base g : Nat) (p cs rm : Int) (ad : Addr) (sc : Nat) (stops : List S58) (a i : Nat) (now far load seen on : Int) (vt vl : Value) (ts : List S100) (ls : List Int) (b1 b2 : Bool) (dd : Int) (w : World) (ha : a < stops.length) (hi : i < stops.length) (h1 : 1 ≤ i) (h2 : (i : Int) ≤ 2 * p) (hp : p ≤ 1000000)
    (hc : CarAt w0 base g #[.int .i64 p, .int .i64 cs, .int .i64 rm, .slice (some ad) stops.length sc, .int .i64 (a : Int), .int .i64 now, .int .i64 far, .int .i64 load, .int .u64 seen, .int .u64 on, vt, vl] vt vl ts ls w) (hr : Kd.C k58 w (some ad) stops.length stops) (hd : plane_Far.f stops[a].f0 stops[a].f1 stops[a].f2 stops[a].f3 stops[a].f4 stops[a].f5 stops[i].f0 stops[i].f1 stops[i].f2 stops[i].f3 stops[i].f4 stops[i].f5 = some dd) (hb1 : set_Has.f seen (i : Int) = some b1) (hb2 : set_Has.f seen ((i : Int) - p) = some b2) (hE : visE p rm load stops[i].f2 i b1 b2 = 0) (bg : Int) (hbg : bg = if wrap64 (now + dd) < stops[i].f3 then stops[i].f3 else wrap64 (now + dd)) (hdue : stops[i].f4 < bg) :
    Calls Tryd.prog 57 #[.pointer (some ⟨g, 0, none⟩), .int .i64 (i : Int)] w fun e w' => e = .returned (.int .i64 7) ∧ Below base w0 w' := by
  have HC := hidK hc
  have HR := hidK hr
  have HI := hidK (show Stop6 w ad stops i hi by obtain ⟨ad2, e, h⟩ := stop6 hr i hi; obtain rfl := Option.some.inj e; exact h)
  have HD := hidK hd
  have HBG := hidK hbg
  have ddue : decide (stops[i].f4 < bg) = true := decide_eq_true hdue
  have hmax := Kd.C_max hr
  have hmx := hbg.symm
  have hv := (visits_r g p cs rm ad sc stops i (a : Int) now far load seen on vt vl b1 b2 w hi h1 h2 hp hc.hg hr hb1 hb2)
  rw [hE] at hv
  have HV := hidK hv
  clear hv hc hr hd hb1 hb2 hE hbg
  have q3 : (0 : Int) ≤ (i : Int) := by omega
  have q4 : (i : Int) < (stops.length : Int) := by omega
  have c3 := blk_cell HC.out.hg 3
  obtain ⟨x0, x1, x2, x3, x4, x5⟩ := HI.out
  go_enter Tryd.func57, Tryd.ntmps57
  go_wp2_with (first | ((with_reducible refine gate_sv 58 6 22 rfl ?_); refine zqv 58 _ _ 0 6 #[.int .i64 stops[i].f0, .int .i64 stops[i].f1, .int .i64 stops[i].f2, .int .i64 stops[i].f3, .int .i64 stops[i].f4, .int .i64 stops[i].f5] (blk_new (w.drewN n1) (.cells #[.int .i64 0, .int .i64 0, .int .i64 0, .int .i64 0, .int .i64 0, .int .i64 0] 58)) rfl rfl rfl rfl rfl rfl (by rfl) (by kernel_rfl) (by exact Nat.le_of_ble_eq_true rfl) (by rfl) ?_; intro wE hb1 hbel hfar; have HS1 := hidK (show wE.heap[w.heap.size]? = some (.cells #[.int .i64 stops[i].f0, .int .i64 stops[i].f1, .int .i64 stops[i].f2, .int .i64 stops[i].f3, .int .i64 stops[i].f4, .int .i64 stops[i].f5] 58 (0, 0)) from hb1); have HC1 := hidK (((HC.out.drewN n1).alloc _).away (HC.out.drewN n1).at_ne hbel hfar); have HR1 := hidK (Kd.C_below HR.out (hbel _ _ (below_alloc (pw_below_drewN (Below.refl _ _) n1) _) (Nat.le_refl _))); clear hb1 hbel hfar) | (go_at_call 61; (with_reducible refine HV.out.mono ?_); rintro e_ w1 ⟨rfl, ⟨n1, rfl⟩⟩) | (go_at_call 62; refine (drive_r g p cs rm ad sc stops a i now far load seen on vt vl dd _ ha hi HC1.out.hg HR1.out HD.out).mono ?_; rintro e_ w2 ⟨rfl, hb_, hgr_⟩; have HC2 := hidK (HC1.out.turn hb_ hgr_); have HS2 := hidK (blk_grown HS1.out hgr_ (fun e => HC.out.at_ne.2.2.1 (Option.some.inj e))); clear hb_ hgr_; have s2 := blk_cell HS2.out 2; have s3 := blk_cell HS2.out 3) | ((with_reducible refine gate_sv 100 8 31 rfl ?_); go_loud (refine zqv 100 _ _ 0 3 #[.int .i64 (wrap64 (now + dd)), .int .i64 bg, .int .i64 0] (blk_new w2 (.cells #[.int .i64 0, .int .i64 0, .int .i64 0] 100)) rfl rfl rfl rfl (u := .agg #[.int .i64 (wrap64 (now + dd)), .int .i64 bg, .int .i64 0]) (by rw [HBG.out]; rfl) rfl (by rfl) (by kernel_rfl) (by exact Nat.le_of_ble_eq_true rfl) (by rfl) ?_; intro wF hb1 hbel hfar; have HT3 := hidK hb1; have HC3 := hidK ((HC2.out.alloc _).away HC2.out.at_ne hbel hfar); have HTN := hidK HC2.out.at_ne; have HS3 := hidK ((hfar _ (Nat.ne_of_lt (blk_lt HS2.out))).trans (blk_alloc HS2.out _)); clear hb1 hbel hfar s2 s3; have t1 := blk_cell HT3.out 1; have s4 := blk_cell HS3.out 4; have s5 := blk_cell HS3.out 5)))
  all_goals (go_ret; exact ⟨rfl, HC3.out.hb⟩)
/-- What is known of a car on its way. -/
structure Cs where
  at_ : Nat
  now : Int
  far : Int
  load : Int
  seen : Int
  on : Int
  ts : List S100
  ls : List Int
def cellsC (p cs rm : Int) (ad : Addr) (sc n : Nat) (c : Cs) (vt vl : Value) : Array Value := #[.int .i64 p, .int .i64 cs, .int .i64 rm, .slice (some ad) n sc, .int .i64 (c.at_ : Int), .int .i64 c.now, .int .i64 c.far, .int .i64 c.load, .int .u64 c.seen, .int .u64 c.on, vt, vl]
def begF (come ready : Int) : Int := if come < ready then ready else come
def farS (x y : S58) : Option Int := plane_Far.f x.f0 x.f1 x.f2 x.f3 x.f4 x.f5 y.f0 y.f1 y.f2 y.f3 y.f4 y.f5
/-- A visit to stop i: what is wrong, and the car behind it. -/
def visF (p rm : Int) (stops : List S58) (c : Cs) (i : Nat) : Option (Int × Cs) :=
  if h : c.at_ < stops.length ∧ i < stops.length ∧ 1 ≤ i ∧ (i : Int) ≤ 2 * p ∧ p ≤ 1000000 ∧ c.ts.length ≤ 1000 ∧ c.ls.length ≤ 1000 then
    (set_Has.f c.seen (i : Int)).bind fun b1 => (set_Has.f c.seen ((i : Int) - p)).bind fun b2 =>
      if visE p rm c.load (stops[i]'h.2.1).f2 i b1 b2 ≠ 0 then some (visE p rm c.load (stops[i]'h.2.1).f2 i b1 b2, c)
      else (farS (stops[c.at_]'h.1) (stops[i]'h.2.1)).bind fun dd =>
        if (stops[i]'h.2.1).f4 < begF (wrap64 (c.now + dd)) (stops[i]'h.2.1).f3 then some (7, c)
        else (set_With.f c.seen (i : Int)).bind fun sw => (if (i : Int) ≤ p then set_With.f c.on (i : Int) else set_Without.f c.on ((i : Int) - p)).bind fun on1 =>
          some (0, ⟨i, wrap64 (begF (wrap64 (c.now + dd)) (stops[i]'h.2.1).f3 + (stops[i]'h.2.1).f5), wrap64 (c.far + dd), wrap64 (c.load + (stops[i]'h.2.1).f2), sw, on1, c.ts ++ [⟨wrap64 (c.now + dd), begF (wrap64 (c.now + dd)) (stops[i]'h.2.1).f3, wrap64 (begF (wrap64 (c.now + dd)) (stops[i]'h.2.1).f3 + (stops[i]'h.2.1).f5)⟩], c.ls ++ [wrap64 (c.load + (stops[i]'h.2.1).f2)]⟩)
  else none
/-- The way home: what is wrong, and how far it was in all. -/
def homF (stops : List S58) (c : Cs) : Option (Int × Int) :=
  if h : c.at_ < stops.length ∧ 0 < stops.length then
    (farS (stops[c.at_]'h.1) (stops[0]'h.2)).bind fun dd => some (if c.on = 0 then (if (stops[0]'h.2).f4 < wrap64 (c.now + dd) then 7 else 0) else 8, wrap64 (c.far + dd))
  else none
theorem visit_c (w0 : World) (base g : Nat) (p cs rm : Int) (ad : Addr) (sc : Nat) (stops : List S58) (c : Cs) (i : Nat) (vt vl : Value) (ev : Int) (c1 : Cs) (w : World)
    (hc : CarAt w0 base g (cellsC p cs rm ad sc stops.length c vt vl) vt vl c.ts c.ls w) (hr : Kd.C k58 w (some ad) stops.length stops) (hf : visF p rm stops c i = some (ev, c1)) :
    Calls Tryd.prog 57 #[.pointer (some ⟨g, 0, none⟩), .int .i64 (i : Int)] w fun e w' => e = .returned (.int .i64 ev) ∧ Below base w0 w' ∧ (ev = 0 → ∃ vt1 vl1, CarAt w0 base g (cellsC p cs rm ad sc stops.length c1 vt1 vl1) vt1 vl1 c1.ts c1.ls w') := by
  unfold visF at hf
  by_cases h : c.at_ < stops.length ∧ i < stops.length ∧ 1 ≤ i ∧ (i : Int) ≤ 2 * p ∧ p ≤ 1000000 ∧ c.ts.length ≤ 1000 ∧ c.ls.length ≤ 1000
  · rw [dif_pos h] at hf
    obtain ⟨ha, hi, h1, h2, hp, hl1, hl2⟩ := h
    obtain ⟨b1, hb1, hf⟩ := Option.bind_eq_some_iff.1 hf
    obtain ⟨b2, hb2, hf⟩ := Option.bind_eq_some_iff.1 hf
    by_cases hE : visE p rm c.load stops[i].f2 i b1 b2 = 0
    · rw [if_neg (fun h => h hE)] at hf
      obtain ⟨dd, hd, hf⟩ := Option.bind_eq_some_iff.1 hf
      by_cases hdue : stops[i].f4 < begF (wrap64 (c.now + dd)) stops[i].f3
      · rw [if_pos hdue] at hf
        obtain ⟨rfl, rfl⟩ := Prod.mk.inj (Option.some.inj hf)
        refine (visit_l w0 base g p cs rm ad sc stops c.at_ i c.now c.far c.load c.seen c.on vt vl c.ts c.ls b1 b2 dd w ha hi h1 h2 hp hc hr hd hb1 hb2 hE _ rfl hdue).mono ?_
        rintro e w1 ⟨rfl, hb⟩
        exact ⟨rfl, hb, fun h => absurd h (by decide)⟩
      · rw [if_neg hdue] at hf
        obtain ⟨sw, hw, hf⟩ := Option.bind_eq_some_iff.1 hf
        obtain ⟨on1, ho, hf⟩ := Option.bind_eq_some_iff.1 hf
        obtain ⟨rfl, rfl⟩ := Prod.mk.inj (Option.some.inj hf)
        refine (visit_r w0 base g p cs rm ad sc stops c.at_ i c.now c.far c.load c.seen c.on vt vl c.ts c.ls b1 b2 dd w ha hi h1 h2 hp hc hr hd hb1 hb2 hE _ rfl hdue sw hw on1 ⟨fun h => by rwa [if_pos h] at ho, fun h => by rwa [if_neg h] at ho⟩ hl1 hl2).mono ?_
        rintro e w1 ⟨rfl, vt1, vl1, h⟩
        exact ⟨rfl, h.hb, fun _ => ⟨vt1, vl1, h⟩⟩
    · rw [if_pos hE] at hf
      obtain ⟨rfl, rfl⟩ := Prod.mk.inj (Option.some.inj hf)
      refine (visit_v w0 base g p cs rm ad sc stops c.at_ i c.now c.far c.load c.seen c.on vt vl c.ts c.ls b1 b2 w hi h1 h2 hp hc hr hb1 hb2 _ hE rfl).mono ?_
      rintro e w1 ⟨rfl, hb⟩
      exact ⟨rfl, hb, fun h => absurd h hE⟩
  · rw [dif_neg h] at hf; cases hf
theorem home_c (w0 : World) (base g : Nat) (p cs rm : Int) (ad : Addr) (sc : Nat) (stops : List S58) (c : Cs) (vt vl : Value) (ev far1 : Int) (w : World)
    (hc : CarAt w0 base g (cellsC p cs rm ad sc stops.length c vt vl) vt vl c.ts c.ls w) (hr : Kd.C k58 w (some ad) stops.length stops) (hne : ad.block ≠ g) (hf : homF stops c = some (ev, far1)) :
    Calls Tryd.prog 58 #[.pointer (some ⟨g, 0, none⟩)] w fun e w' => e = .returned (.int .i64 ev) ∧ Below base w0 w' ∧ (ev = 0 → CarAt w0 base g #[.int .i64 p, .int .i64 cs, .int .i64 rm, .slice (some ad) stops.length sc, .int .i64 0, .int .i64 c.now, .int .i64 far1, .int .i64 c.load, .int .u64 c.seen, .int .u64 c.on, vt, vl] vt vl c.ts c.ls w') := by
  unfold homF at hf
  by_cases h : c.at_ < stops.length ∧ 0 < stops.length
  · rw [dif_pos h] at hf
    obtain ⟨ha, h0⟩ := h
    obtain ⟨dd, hd, hf⟩ := Option.bind_eq_some_iff.1 hf
    obtain ⟨rfl, rfl⟩ := Prod.mk.inj (Option.some.inj hf)
    refine (home_r g p cs rm ad sc stops c.at_ c.now c.far c.load c.seen c.on vt vl dd w ha h0 hc.hg hr hne hd).mono ?_
    rintro e w1 ⟨rfl, h1, h2⟩
    refine ⟨rfl, pw_below_grown hc.hb (some g) hc.size h2 (fun k hk => by rw [← Option.some.inj hk]; exact hc.hbg), fun hev => hc.turn (h1 ?_) h2⟩
    by_cases hon : c.on = 0
    · exact hon
    · rw [if_neg hon] at hev; cases hev
  · rw [dif_neg h] at hf; cases hf
/-- As Q; by a goto to a label: J of it. -/
def Exit_jumps (J : Nat → Act → World → Prop) (Q : Exit → Act → World → Prop) : Exit → Act → World → Prop
  | .goto l, a, w => J l a w
  | e, a, w => Q e a w
theorem wp_scope_multi {P : Program} {a : Act} {w : World} {Q : Exit → Act → World → Prop} {c : Code} (J : Nat → Nat → Act → World → Prop)
    (first : c.wp P (Exit_jumps (fun l a w => ∃ n, J n l a w) Q) a w)
    (pass : ∀ n l a w, J n l a w → ∃ rest, findLabel c l = some rest ∧ rest.wp P (Exit_jumps (fun l a w => ∃ m, m < n ∧ J m l a w) Q) a w) : (Code.scope c).wp P Q a w := by
  intro b k cs
  have key : ∀ n l a w, J n l a w → ∃ rest, gotoIn l (.inScope c :: k) = some (.code rest :: .inScope c :: k) ∧ ∃ e a' w', Q e a' w' ∧ Arrives P (lone (b.at a (.code rest :: .inScope c :: k)) cs w) b k cs e a' w' := by
    intro n
    induction n using Nat.strongRecOn with
    | _ n ih =>
      intro l a w hJ
      obtain ⟨rest, hf, hp⟩ := pass n l a w hJ
      refine ⟨rest, by simp [gotoIn, hf], ?_⟩
      obtain ⟨e, a1, w1, hq, harr⟩ := hp b (.inScope c :: k) cs
      cases e with
      | normal => exact ⟨.normal, a1, w1, hq, Steps.trans harr (.one step_inScope)⟩
      | exit id => exact ⟨.exit id, a1, w1, hq, fun k' hk => harr k' (by simp [exitTo, hk])⟩
      | goto l' =>
        obtain ⟨m, hlt, hJ'⟩ := hq
        obtain ⟨rest2, hg, e2, a2, w2, hq2, harr2⟩ := ih m hlt l' a1 w1 hJ'
        exact ⟨e2, a2, w2, hq2, .of_steps (harr _ hg) harr2⟩
      | ret => exact ⟨_, a1, w1, hq, harr⟩
      | panic ch => exact ⟨_, a1, w1, hq, harr⟩
      | outgrown => exact ⟨_, a1, w1, hq, harr⟩
  obtain ⟨e, a1, w1, hq, harr⟩ := first b (.inScope c :: k) cs
  cases e with
  | normal => exact ⟨.normal, a1, w1, hq, .head step_scope (Steps.trans harr (.one step_inScope))⟩
  | exit id => exact ⟨.exit id, a1, w1, hq, fun k' hk => .head step_scope (harr k' (by simp [exitTo, hk]))⟩
  | goto l' =>
    obtain ⟨n, hJ'⟩ := hq
    obtain ⟨rest, hg, e2, a2, w2, hq2, harr2⟩ := key n l' a1 w1 hJ'
    exact ⟨e2, a2, w2, hq2, .of_steps (.head step_scope (harr _ hg)) harr2⟩
  | ret => exact ⟨_, a1, w1, hq, .of_steps (.one step_scope) harr⟩
  | panic ch => exact ⟨_, a1, w1, hq, .of_steps (.one step_scope) harr⟩
  | outgrown => exact ⟨_, a1, w1, hq, .of_steps (.one step_scope) harr⟩
/-- What follows when the first visit is done, and when the second is. -/
def rest3 (stops : List S58) (c : Cs) : Option (Int × Int × List S100) := (homF stops c).bind fun q => if q.1 ≠ 0 then some (q.1, 0, []) else some (0, q.2, c.ts)
def rest2 (p rm : Int) (stops : List S58) (i2 : Nat) (c : Cs) : Option (Int × Int × List S100) := (visF p rm stops c i2).bind fun q => if q.1 ≠ 0 then some (q.1, 0, []) else rest3 stops q.2
def c0F (stops : List S58) (h : 0 < stops.length) : Cs := ⟨0, stops[0].f3, 0, 0, 0, 0, [], []⟩
def runF (p rm : Int) (stops : List S58) (i1 i2 : Nat) : Option (Int × Int × List S100) :=
  if h : 0 < stops.length then (visF p rm stops (c0F stops h) i1).bind fun q => if q.1 ≠ 0 then some (q.1, 0, []) else rest2 p rm stops i2 q.2 else none
theorem ej_ret {J : Nat → Act → World → Prop} {Q : Exit → Act → World → Prop} {a : Act} {w : World} (h : Q .ret a w) : Exit_jumps J Q .ret a w := h
/-- What holds at a jump: n is how many more there may be. -/
def RunJ (p cs rm : Int) (ad : Addr) (sc : Nat) (stops : List S58) (ar : Addr) (cr : Nat) (i2 : Nat) (er fr : Int) (tr : List S100) (w : World) (n l : Nat) (a' : Act) (W : World) : Prop := (n = 2 ∧ l = 1 ∧ ∃ (g : Nat) (u : Nat → Value) (vt vl : Value) (c : Cs), a' = { tmps := #[(u 0), .slice (some ar) 2 cr, (u 2), (u 3), (u 4), (u 5), .pointer (some ⟨g, 0, none⟩), .int .i64 1, .int .i64 0, (u 9), (u 10), (u 11), (u 12), (u 13), (u 14), (u 15), (u 16), (u 17), (u 18), (u 19), (u 20), (u 21), (u 22), (u 23), (u 24), (u 25), (u 26), (u 27), (u 28), (u 29), (u 30), (u 31), (u 32), (u 33), (u 34)], defers := [] } ∧ Hid (CarAt w w.heap.size g (cellsC p cs rm ad sc stops.length c vt vl) vt vl c.ts c.ls W) ∧ Hid (rest2 p rm stops i2 c = some (er, fr, tr))) ∨
      (n = 1 ∧ l = 1 ∧ ∃ (g : Nat) (u : Nat → Value) (vt vl : Value) (c : Cs), a' = { tmps := #[(u 0), .slice (some ar) 2 cr, (u 2), (u 3), (u 4), (u 5), .pointer (some ⟨g, 0, none⟩), .int .i64 2, .int .i64 0, (u 9), (u 10), (u 11), (u 12), (u 13), (u 14), (u 15), (u 16), (u 17), (u 18), (u 19), (u 20), (u 21), (u 22), (u 23), (u 24), (u 25), (u 26), (u 27), (u 28), (u 29), (u 30), (u 31), (u 32), (u 33), (u 34)], defers := [] } ∧ Hid (CarAt w w.heap.size g (cellsC p cs rm ad sc stops.length c vt vl) vt vl c.ts c.ls W) ∧ Hid (rest3 stops c = some (er, fr, tr))) ∨
      (n = 0 ∧ l = 0 ∧ ∃ (g : Nat) (k : Int) (u : Nat → Value), a' = { tmps := #[(u 0), .slice (some ar) 2 cr, (u 2), (u 3), (u 4), (u 5), .pointer (some ⟨g, 0, none⟩), .int .i64 k, .int .i64 er, (u 9), (u 10), (u 11), (u 12), (u 13), (u 14), (u 15), (u 16), (u 17), (u 18), (u 19), (u 20), (u 21), (u 22), (u 23), (u 24), (u 25), (u 26), (u 27), (u 28), (u 29), (u 30), (u 31), (u 32), (u 33), (u 34)], defers := [] } ∧ Below w.heap.size w W ∧ er ≠ 0)
set_option maxHeartbeats 16000000 in
set_option maxRecDepth 100000 in
theorem run_r (k : Nat) (p cs rm : Int) (ad : Addr) (sc : Nat) (stops : List S58) (ar : Addr) (cr : Nat) (i1 i2 : Nat) (er fr : Int) (tr : List S100) (w : World)
    (hr : Kd.C k58 w (some ad) stops.length stops) (hsc : stops.length ≤ sc) (hr0 : w.cell? ar = some (.int .i64 (i1 : Int))) (hr1 : w.cell? ⟨ar.block, ar.off + 1, none⟩ = some (.int .i64 (i2 : Int))) (hm : inst_May.f k p cs rm stops = some true) (hf : runF p rm stops i1 i2 = some (er, fr, tr)) :
    Calls Tryd.prog 47 #[.agg #[.int .i64 p, .int .i64 cs, .int .i64 rm, .slice (some ad) stops.length sc], .slice (some ar) 2 cr] w fun e w' => Below w.heap.size w w' ∧ (er ≠ 0 → e = .returned (.tuple #[.pointer none, .int .i64 er])) ∧
      (er = 0 → ∃ g vt vl ls x0 x1 x2 x3 x4 x5 x7 x8 x9, e = .returned (.tuple #[.pointer (some ⟨g, 0, none⟩), .int .i64 0]) ∧ CarAt w w.heap.size g #[x0, x1, x2, x3, x4, x5, .int .i64 fr, x7, x8, x9, vt, vl] vt vl tr ls w') := by
  have h0 : 0 < stops.length := by
    by_cases h : 0 < stops.length
    · exact h
    · unfold runF at hf; rw [dif_neg h] at hf; cases hf
  unfold runF at hf
  rw [dif_pos h0] at hf
  obtain ⟨⟨e1, c1⟩, hf1, hf2⟩ := Option.bind_eq_some_iff.1 hf
  simp only at hf2
  have HF1 := hidK hf1
  have HR := hidK hr
  have HM := hidK hm
  have R0 := hidK hr0
  have R1 := hidK hr1
  have hadl : ad.block < w.heap.size := by
    obtain ⟨ad2, e, h⟩ := stop6 hr 0 h0
    obtain rfl := Option.some.inj e
    have h2 := World.block_lt_of_cell? _ _ h.1
    rwa [add_z ad] at h2
  clear hf hf1 hr hm hr0 hr1
  go_enter Tryd.func47, Tryd.ntmps47
  go_wp2
  refine wp_scope_multi (RunJ p cs rm ad sc stops ar cr i2 er fr tr w) ?first ?pass
  case first =>
    by_cases he1 : e1 = 0
    · have b1 : (e1 != 0) = false := by rw [he1]; rfl
      subst he1
      rw [if_neg (fun h => h rfl)] at hf2
      have HF2 := hidK hf2
      clear hf2
      go_wp2_with (first | (go_at_call 34; (with_reducible refine (inst_May.calls k p cs rm (some ad) sc stops true _ (Kd.C_below HR.out (below_alloc (Below.refl _ _) _)) hsc HM.out).mono ?_); rintro e_ wm ⟨rfl, hb_⟩; have HBm := hidK (below_step (below_alloc (Below.refl _ _) _) hb_); have HXm := hidK (blk_below (blk_new w (.cells #[.int .i64 p, .int .i64 cs, .int .i64 rm, .slice (some ad) stops.length sc] 39)) hb_); have m0 := blk_cell HXm.out 0; have m1 := blk_cell HXm.out 1; have m2 := blk_cell HXm.out 2; have m3 := blk_cell HXm.out 3; clear hb_) | (go_at_call 56; (with_reducible refine (begin_r p cs rm ad sc stops _ h0 (Kd.C_below HR.out HBm.out)).mono ?_); rintro e_ wb ⟨g, rfl, hge, hcar, hb_⟩; have HC := hidK (show CarAt w w.heap.size g (cellsC p cs rm ad sc stops.length (c0F stops h0) (.slice none 0 0) (.slice none 0 0)) (.slice none 0 0) (.slice none 0 0) (c0F stops h0).ts (c0F stops h0).ls wb from ⟨hcar, Kd.R_nil _ _ _ _ _, Kd.R_nil _ _ _ _ _, below_step HBm.out hb_, Nat.le_trans (below_size HBm.out) hge⟩); have r0 := (HC.out.hb.cell (World.block_lt_of_cell? _ _ R0.out)).trans R0.out; have r1 := (HC.out.hb.cell (World.block_lt_of_cell? _ _ R1.out)).trans R1.out; clear hge hcar hb_ m0 m1 m2 m3))
      refine wp_label ?_
      go_wp2_with (go_at_call 57; (with_reducible refine (visit_c w w.heap.size g p cs rm ad sc stops (c0F stops h0) i1 _ _ 0 c1 _ HC.out (Kd.C_below HR.out HC.out.hb) HF1.out).mono ?_); rintro e_ wv ⟨rfl, hb_, hz_⟩; have HB1 := hidK hb_; have HZ := hidK hz_; clear hb_ hz_)
      obtain ⟨vt1, vl1, hc1⟩ := HZ.out (by trivial)
      refine wp_goto ?_
      have key : ∀ a_ : Act, a_ = { tmps := #[(a_.tmps.getD 0 undef), .slice (some ar) 2 cr, (a_.tmps.getD 2 undef), (a_.tmps.getD 3 undef), (a_.tmps.getD 4 undef), (a_.tmps.getD 5 undef), .pointer (some ⟨g, 0, none⟩), .int .i64 1, .int .i64 0, (a_.tmps.getD 9 undef), (a_.tmps.getD 10 undef), (a_.tmps.getD 11 undef), (a_.tmps.getD 12 undef), (a_.tmps.getD 13 undef), (a_.tmps.getD 14 undef), (a_.tmps.getD 15 undef), (a_.tmps.getD 16 undef), (a_.tmps.getD 17 undef), (a_.tmps.getD 18 undef), (a_.tmps.getD 19 undef), (a_.tmps.getD 20 undef), (a_.tmps.getD 21 undef), (a_.tmps.getD 22 undef), (a_.tmps.getD 23 undef), (a_.tmps.getD 24 undef), (a_.tmps.getD 25 undef), (a_.tmps.getD 26 undef), (a_.tmps.getD 27 undef), (a_.tmps.getD 28 undef), (a_.tmps.getD 29 undef), (a_.tmps.getD 30 undef), (a_.tmps.getD 31 undef), (a_.tmps.getD 32 undef), (a_.tmps.getD 33 undef), (a_.tmps.getD 34 undef)], defers := [] } → ∃ n, RunJ p cs rm ad sc stops ar cr i2 er fr tr w n 1 a_ wv := fun a_ ha => ⟨2, Or.inl ⟨rfl, rfl, g, fun n => a_.tmps.getD n undef, vt1, vl1, c1, ha, hidK hc1, HF2⟩⟩
      exact key _ rfl
    · have b1 : (e1 != 0) = true := bne_iff_ne.mpr he1
      rw [if_pos he1] at hf2
      obtain ⟨rfl, hq⟩ := Prod.mk.inj (Option.some.inj hf2)
      clear hf2 hq
      go_wp2_with (first | (go_at_call 34; (with_reducible refine (inst_May.calls k p cs rm (some ad) sc stops true _ (Kd.C_below HR.out (below_alloc (Below.refl _ _) _)) hsc HM.out).mono ?_); rintro e_ wm ⟨rfl, hb_⟩; have HBm := hidK (below_step (below_alloc (Below.refl _ _) _) hb_); have HXm := hidK (blk_below (blk_new w (.cells #[.int .i64 p, .int .i64 cs, .int .i64 rm, .slice (some ad) stops.length sc] 39)) hb_); have m0 := blk_cell HXm.out 0; have m1 := blk_cell HXm.out 1; have m2 := blk_cell HXm.out 2; have m3 := blk_cell HXm.out 3; clear hb_) | (go_at_call 56; (with_reducible refine (begin_r p cs rm ad sc stops _ h0 (Kd.C_below HR.out HBm.out)).mono ?_); rintro e_ wb ⟨g, rfl, hge, hcar, hb_⟩; have HC := hidK (show CarAt w w.heap.size g (cellsC p cs rm ad sc stops.length (c0F stops h0) (.slice none 0 0) (.slice none 0 0)) (.slice none 0 0) (.slice none 0 0) (c0F stops h0).ts (c0F stops h0).ls wb from ⟨hcar, Kd.R_nil _ _ _ _ _, Kd.R_nil _ _ _ _ _, below_step HBm.out hb_, Nat.le_trans (below_size HBm.out) hge⟩); have r0 := (HC.out.hb.cell (World.block_lt_of_cell? _ _ R0.out)).trans R0.out; have r1 := (HC.out.hb.cell (World.block_lt_of_cell? _ _ R1.out)).trans R1.out; clear hge hcar hb_ m0 m1 m2 m3))
      refine wp_label ?_
      go_wp2_with (go_at_call 57; (with_reducible refine (visit_c w w.heap.size g p cs rm ad sc stops (c0F stops h0) i1 _ _ e1 c1 _ HC.out (Kd.C_below HR.out HC.out.hb) HF1.out).mono ?_); rintro e_ wv ⟨rfl, hb_, hz_⟩; have HB1 := hidK hb_; have HZ := hidK hz_; clear hb_ hz_)
      refine wp_goto ?_
      have key : ∀ a_ : Act, a_ = { tmps := #[(a_.tmps.getD 0 undef), .slice (some ar) 2 cr, (a_.tmps.getD 2 undef), (a_.tmps.getD 3 undef), (a_.tmps.getD 4 undef), (a_.tmps.getD 5 undef), .pointer (some ⟨g, 0, none⟩), .int .i64 0, .int .i64 e1, (a_.tmps.getD 9 undef), (a_.tmps.getD 10 undef), (a_.tmps.getD 11 undef), (a_.tmps.getD 12 undef), (a_.tmps.getD 13 undef), (a_.tmps.getD 14 undef), (a_.tmps.getD 15 undef), (a_.tmps.getD 16 undef), (a_.tmps.getD 17 undef), (a_.tmps.getD 18 undef), (a_.tmps.getD 19 undef), (a_.tmps.getD 20 undef), (a_.tmps.getD 21 undef), (a_.tmps.getD 22 undef), (a_.tmps.getD 23 undef), (a_.tmps.getD 24 undef), (a_.tmps.getD 25 undef), (a_.tmps.getD 26 undef), (a_.tmps.getD 27 undef), (a_.tmps.getD 28 undef), (a_.tmps.getD 29 undef), (a_.tmps.getD 30 undef), (a_.tmps.getD 31 undef), (a_.tmps.getD 32 undef), (a_.tmps.getD 33 undef), (a_.tmps.getD 34 undef)], defers := [] } → ∃ n, RunJ p cs rm ad sc stops ar cr i2 e1 fr tr w n 0 a_ wv := fun a_ ha => ⟨0, Or.inr (Or.inr ⟨rfl, rfl, g, 0, fun n => a_.tmps.getD n undef, ha, HB1.out, he1⟩)⟩
      exact key _ rfl
  case pass =>
    clear HF1 hf2 HM
    intro n l a W hJ
    rcases hJ with ⟨rfl, rfl, g, u, vt, vl, c, rfl, HC, HF⟩ | ⟨rfl, rfl, g, u, vt, vl, c, rfl, HC, HF⟩ | ⟨rfl, rfl, g, kk, u, rfl, hb, hne⟩
    · have hf := HF.out
      unfold rest2 at hf
      obtain ⟨⟨e2, c2⟩, hf1, hf2⟩ := Option.bind_eq_some_iff.1 hf
      have HF1 := hidK hf1
      have r1 := (HC.out.hb.cell (World.block_lt_of_cell? _ _ R1.out)).trans R1.out
      clear hf hf1 HF
      refine ⟨_, by rfl, ?_⟩
      by_cases he2 : e2 = 0
      · have b1 : (e2 != 0) = false := by rw [he2]; rfl
        subst he2
        rw [if_neg (fun h => h rfl)] at hf2
        have HF2 := hidK hf2
        clear hf2
        go_wp2_with (go_at_call 57; (with_reducible refine (visit_c w w.heap.size g p cs rm ad sc stops c i2 _ _ 0 c2 _ HC.out (Kd.C_below HR.out HC.out.hb) HF1.out).mono ?_); rintro e_ wv ⟨rfl, hb_, hz_⟩; have HB1 := hidK hb_; have HZ := hidK hz_; clear hb_ hz_)
        obtain ⟨vt1, vl1, hc1⟩ := HZ.out (by trivial)
        refine wp_goto ?_
        have key : ∀ a_ : Act, a_ = { tmps := #[(a_.tmps.getD 0 undef), .slice (some ar) 2 cr, (a_.tmps.getD 2 undef), (a_.tmps.getD 3 undef), (a_.tmps.getD 4 undef), (a_.tmps.getD 5 undef), .pointer (some ⟨g, 0, none⟩), .int .i64 2, .int .i64 0, (a_.tmps.getD 9 undef), (a_.tmps.getD 10 undef), (a_.tmps.getD 11 undef), (a_.tmps.getD 12 undef), (a_.tmps.getD 13 undef), (a_.tmps.getD 14 undef), (a_.tmps.getD 15 undef), (a_.tmps.getD 16 undef), (a_.tmps.getD 17 undef), (a_.tmps.getD 18 undef), (a_.tmps.getD 19 undef), (a_.tmps.getD 20 undef), (a_.tmps.getD 21 undef), (a_.tmps.getD 22 undef), (a_.tmps.getD 23 undef), (a_.tmps.getD 24 undef), (a_.tmps.getD 25 undef), (a_.tmps.getD 26 undef), (a_.tmps.getD 27 undef), (a_.tmps.getD 28 undef), (a_.tmps.getD 29 undef), (a_.tmps.getD 30 undef), (a_.tmps.getD 31 undef), (a_.tmps.getD 32 undef), (a_.tmps.getD 33 undef), (a_.tmps.getD 34 undef)], defers := [] } → ∃ m, m < 2 ∧ RunJ p cs rm ad sc stops ar cr i2 er fr tr w m 1 a_ wv := fun a_ ha => ⟨1, by decide, Or.inr (Or.inl ⟨rfl, rfl, g, fun n => a_.tmps.getD n undef, vt1, vl1, c2, ha, hidK hc1, HF2⟩)⟩
        exact key _ rfl
      · have b1 : (e2 != 0) = true := bne_iff_ne.mpr he2
        rw [if_pos he2] at hf2
        obtain ⟨rfl, hq⟩ := Prod.mk.inj (Option.some.inj hf2)
        clear hf2 hq
        go_wp2_with (go_at_call 57; (with_reducible refine (visit_c w w.heap.size g p cs rm ad sc stops c i2 _ _ e2 c2 _ HC.out (Kd.C_below HR.out HC.out.hb) HF1.out).mono ?_); rintro e_ wv ⟨rfl, hb_, hz_⟩; have HB1 := hidK hb_; have HZ := hidK hz_; clear hb_ hz_)
        refine wp_goto ?_
        have key : ∀ a_ : Act, a_ = { tmps := #[(a_.tmps.getD 0 undef), .slice (some ar) 2 cr, (a_.tmps.getD 2 undef), (a_.tmps.getD 3 undef), (a_.tmps.getD 4 undef), (a_.tmps.getD 5 undef), .pointer (some ⟨g, 0, none⟩), .int .i64 1, .int .i64 e2, (a_.tmps.getD 9 undef), (a_.tmps.getD 10 undef), (a_.tmps.getD 11 undef), (a_.tmps.getD 12 undef), (a_.tmps.getD 13 undef), (a_.tmps.getD 14 undef), (a_.tmps.getD 15 undef), (a_.tmps.getD 16 undef), (a_.tmps.getD 17 undef), (a_.tmps.getD 18 undef), (a_.tmps.getD 19 undef), (a_.tmps.getD 20 undef), (a_.tmps.getD 21 undef), (a_.tmps.getD 22 undef), (a_.tmps.getD 23 undef), (a_.tmps.getD 24 undef), (a_.tmps.getD 25 undef), (a_.tmps.getD 26 undef), (a_.tmps.getD 27 undef), (a_.tmps.getD 28 undef), (a_.tmps.getD 29 undef), (a_.tmps.getD 30 undef), (a_.tmps.getD 31 undef), (a_.tmps.getD 32 undef), (a_.tmps.getD 33 undef), (a_.tmps.getD 34 undef)], defers := [] } → ∃ m, m < 2 ∧ RunJ p cs rm ad sc stops ar cr i2 e2 fr tr w m 0 a_ wv := fun a_ ha => ⟨0, by decide, Or.inr (Or.inr ⟨rfl, rfl, g, 1, fun n => a_.tmps.getD n undef, ha, HB1.out, he2⟩)⟩
        exact key _ rfl
    · have hf := HF.out
      unfold rest3 at hf
      obtain ⟨⟨e3, f3⟩, hf1, hf2⟩ := Option.bind_eq_some_iff.1 hf
      have HF1 := hidK hf1
      have HNG := hidK (show ad.block ≠ g from Nat.ne_of_lt (Nat.lt_of_lt_of_le hadl HC.out.hbg))
      clear hf hf1 HF
      refine ⟨_, by rfl, ?_⟩
      by_cases he3 : e3 = 0
      · subst he3
        rw [if_neg (fun h => h rfl)] at hf2
        obtain ⟨rfl, hq⟩ := Prod.mk.inj (Option.some.inj hf2)
        obtain ⟨rfl, rfl⟩ := Prod.mk.inj hq
        clear hf2 hq
        go_wp2_with (go_at_call 58; (with_reducible refine (home_c w w.heap.size g p cs rm ad sc stops c vt vl 0 f3 _ HC.out (Kd.C_below HR.out HC.out.hb) HNG.out HF1.out).mono ?_); rintro e_ wv ⟨rfl, hb_, hz_⟩; have HB1 := hidK hb_; have HZ := hidK hz_; clear hb_ hz_)
        refine ej_ret ?_
        go_ret2
        exact ⟨HB1.out, fun h => absurd rfl h, fun _ => ⟨g, vt, vl, c.ls, _, _, _, _, _, _, _, _, _, rfl, HZ.out (by trivial)⟩⟩
      · have b1 : (e3 == 0) = false := beq_eq_false_iff_ne.2 he3
        rw [if_pos he3] at hf2
        obtain ⟨rfl, hq⟩ := Prod.mk.inj (Option.some.inj hf2)
        clear hf2 hq
        go_wp2_with (go_at_call 58; (with_reducible refine (home_c w w.heap.size g p cs rm ad sc stops c vt vl e3 f3 _ HC.out (Kd.C_below HR.out HC.out.hb) HNG.out HF1.out).mono ?_); rintro e_ wv ⟨rfl, hb_, hz_⟩; have HB1 := hidK hb_; have HZ := hidK hz_; clear hb_ hz_)
        refine wp_label ?_
        go_wp2
        refine ej_ret ?_
        go_ret2
        exact ⟨HB1.out, fun _ => rfl, fun h => absurd h he3⟩
    · refine ⟨_, by rfl, ?_⟩
      go_wp2
      refine ej_ret ?_
      go_ret2
      exact ⟨hb, fun _ => rfl, fun h => absurd h hne⟩

/-! ### sched_Times: function 35, BY HAND -/
def sched_Times.f (k : Nat) (a0_0 a0_1 a0_2 : Int) (l0_3 : List S58) (l1 : List Int) : Option (List S100 × Int × Int) :=
  if h : l1.length = 2 then
    if 0 ≤ rd l1 0 ∧ 0 ≤ rd l1 1 ∧ inst_May.f k a0_0 a0_1 a0_2 l0_3 = some true then
      (runF a0_0 a0_2 l0_3 (rd l1 0).toNat (rd l1 1).toNat).map fun q => if q.1 ≠ 0 then ([], 0, q.1) else (q.2.2, q.2.1, 0)
    else none
  else none
theorem sched_Times.mono : ∀ (a0_0 a0_1 a0_2 : Int) (l0_3 : List S58) (l1 : List Int) (k : Nat), LeO (sched_Times.f k a0_0 a0_1 a0_2 l0_3 l1) (sched_Times.f (k + 1) a0_0 a0_1 a0_2 l0_3 l1) := by
  intro a b c l l1 k r h
  unfold sched_Times.f at h ⊢
  by_cases h2 : l1.length = 2
  · rw [dif_pos h2] at h ⊢
    by_cases h3 : 0 ≤ rd l1 0 ∧ 0 ≤ rd l1 1 ∧ inst_May.f k a b c l = some true
    · rw [if_pos h3] at h
      rw [if_pos ⟨h3.1, h3.2.1, inst_May.mono _ _ _ _ _ _ h3.2.2⟩]
      exact h
    · rw [if_neg h3] at h; cases h
  · rw [dif_neg h2] at h; cases h
theorem times_r (k : Nat) (p cs rm : Int) (ad : Addr) (sc : Nat) (stops : List S58) (ar : Addr) (cr : Nat) (i1 i2 : Nat) (er fr : Int) (tr : List S100) (w : World)
    (hr : Kd.C k58 w (some ad) stops.length stops) (hsc : stops.length ≤ sc) (hr0 : w.cell? ar = some (.int .i64 (i1 : Int))) (hr1 : w.cell? ⟨ar.block, ar.off + 1, none⟩ = some (.int .i64 (i2 : Int))) (hm : inst_May.f k p cs rm stops = some true) (hf : runF p rm stops i1 i2 = some (er, fr, tr)) :
    Calls Tryd.prog 35 #[.agg #[.int .i64 p, .int .i64 cs, .int .i64 rm, .slice (some ad) stops.length sc], .slice (some ar) 2 cr] w fun e w' => ∃ v0_ : Value, e = .returned (.tuple #[v0_, .int .i64 (if er ≠ 0 then 0 else fr), .int .i64 er]) ∧ Kd.R k100 100 w' w.heap.size (fun _ => True) v0_ (if er ≠ 0 then [] else tr) ∧ Below w.heap.size w w' := by
  have HB0 := hidK (below_alloc (Below.refl _ w) (.cells #[.int .i64 p, .int .i64 cs, .int .i64 rm, .slice (some ad) stops.length sc] 39))
  have HRR := hidK (run_r k p cs rm ad sc stops ar cr i1 i2 er fr tr _ (Kd.C_below hr HB0.out) hsc ((HB0.out.cell (World.block_lt_of_cell? _ _ hr0)).trans hr0) ((HB0.out.cell (World.block_lt_of_cell? _ _ hr1)).trans hr1) hm hf)
  clear hr hr0 hr1 hm hf
  by_cases he : er = 0
  · have b1 : (er != 0) = false := by rw [he]; rfl
    rw [if_neg (fun h => h he), if_neg (fun h => h he)]
    subst he
    go_enter Tryd.func35, Tryd.ntmps35
    go_wp2_with (go_at_call 47; (with_reducible refine HRR.out.mono ?_); rintro e_ w1 ⟨hb_, -, h_⟩; obtain ⟨g, vt, vl, ls, x0, x1, x2, x3, x4, x5, x7, x8, x9, rfl, hc_⟩ := h_ rfl; obtain ⟨At, ct, e1⟩ := Kd.R_slice hc_.rt; obtain ⟨nt, hnt⟩ : ∃ n, n = tr.length := ⟨_, rfl⟩; rw [← hnt] at e1; clear hnt; subst e1; have HC := hidK hc_; have HB := hidK hb_; clear hb_ hc_ h_; have c6 := blk_cell HC.out.hg 6; have c10 := blk_cell HC.out.hg 10)
    refine start_ (n := 11) (S := fun w' => w'.cell? ⟨g, 10, none⟩ = some (.slice At nt ct) ∧ w'.cell? ⟨g, 6, none⟩ = some (.int .i64 fr)) (ds := []) (zqB 11 0) (by kernel_rfl) rfl rfl (⟨c10, c6⟩) (fun hHeld => ?_)
    refine zqp 0 (some 18) (zqB 11 1) (by kernel_rfl) (h := ?_)
    refine zqp 1 (some 19) (zqB 11 3) (by kernel_rfl) (h := ?_)
    refine zqp 2 (some 20) (zqB 11 7) (by kernel_rfl) (h := ?_)
    refine zqt 3 (some 21) (zqB 11 15) (by kernel_rfl) hHeld (h := ?_)
    refine zqp 4 (some 22) (zqB 11 31) (by kernel_rfl) (h := ?_)
    refine zqp 5 (some 23) (zqB 11 63) (by kernel_rfl) (h := ?_)
    refine zqp 6 (some 24) (zqB 11 127) (by kernel_rfl) (h := ?_)
    refine zqt 7 (some 25) (zqB 11 255) (by kernel_rfl) hHeld (h := ?_)
    refine zqp 8 (some 4) (zqB 11 511) (by kernel_rfl) (h := ?_)
    refine zqp 9 (some 5) (zqB 11 1023) (by kernel_rfl) (h := ?_)
    refine zqp 10 (some 6) (zqB 11 2047) (by kernel_rfl) (h := ?_)
    refine done_ (by kernel_rfl) ?_
    go_wp2
    go_ret3
    exact ⟨_, rfl, Kd.R_lower (Kd.R_drew HC.out.rt) (below_size HB0.out), below_drew1 (below_then HB0.out (below_size HB0.out) HB.out)⟩
  · have b1 : (er != 0) = true := bne_iff_ne.mpr he
    rw [if_pos he, if_pos he]
    go_enter Tryd.func35, Tryd.ntmps35
    go_wp2_with (go_at_call 47; (with_reducible refine HRR.out.mono ?_); rintro e_ w1 ⟨hb_, h_, -⟩; obtain rfl := h_ he; have HB := hidK hb_; clear hb_ h_)
    go_ret3
    exact ⟨_, rfl, Kd.R_nil _ _ _ _ _, below_then HB0.out (below_size HB0.out) HB.out⟩
theorem int_at_ {w : World} {A : Option Addr} {l : List Int} (h : Kd.C (Kd.int .i64) w A l.length l) (i : Nat) (hi : i < l.length) : ∃ ad, A = some ad ∧ w.cell? (ad.add i) = some (.int .i64 (rd l (i : Int))) := by
  obtain ⟨ad, e, hc⟩ := h.2.2 (by omega)
  obtain ⟨c, hs, hr, hcell⟩ := hc i _ (List.getElem?_eq_getElem hi)
  have e1 : c = [.int .i64 l[i]] := hr
  subst e1
  have h0 := hcell 0 _ rfl
  refine ⟨ad, e, ?_⟩
  have e2 : i * (Kd.int .i64).sz + 0 = i := Nat.mul_one i
  rw [e2] at h0
  rw [h0]; unfold rd; rw [Int.toNat_natCast, List.getD_eq_getElem?_getD, List.getElem?_eq_getElem hi]; rfl
theorem sched_Times.calls (k : Nat) (a0_0 a0_1 a0_2 : Int) (A0_3 : Option Addr) (c0_3 : Nat) (l0_3 : List S58) (A1 : Option Addr) (c1 : Nat) (l1 : List Int) (r1 : List S100) (r2 r3 : Int) (w : World) (hr0_3 : Kd.C k58 w A0_3 l0_3.length l0_3) (hc0_3 : l0_3.length ≤ c0_3) (hr1 : Kd.C (Kd.int .i64) w A1 l1.length l1) (hc1 : l1.length ≤ c1) (h : sched_Times.f k a0_0 a0_1 a0_2 l0_3 l1 = some (r1, r2, r3)) :
    Calls Tryd.prog 35 #[.agg #[.int .i64 a0_0, .int .i64 a0_1, .int .i64 a0_2, .slice A0_3 l0_3.length c0_3], .slice A1 l1.length c1] w fun e w' => ∃ v0_ : Value, e = .returned (.tuple #[v0_, .int .i64 r2, .int .i64 r3]) ∧ Kd.R k100 100 w' w.heap.size (fun _ => True) v0_ r1 ∧ Below w.heap.size w w' := by
  unfold sched_Times.f at h
  by_cases h2 : l1.length = 2
  · rw [dif_pos h2] at h
    by_cases h3 : 0 ≤ rd l1 0 ∧ 0 ≤ rd l1 1 ∧ inst_May.f k a0_0 a0_1 a0_2 l0_3 = some true
    · rw [if_pos h3] at h
      obtain ⟨q1, q2, hm⟩ := h3
      obtain ⟨⟨er, fr, tr⟩, hf, he⟩ := Option.map_eq_some_iff.1 h
      have h0 : 0 < l0_3.length := by
        by_cases h : 0 < l0_3.length
        · exact h
        · unfold runF at hf; rw [dif_neg h] at hf; cases hf
      obtain ⟨ad, rfl, -⟩ := stop6 (hr0_3) 0 h0
      obtain ⟨ar, e1, g0⟩ := int_at_ hr1 0 (by omega)
      obtain ⟨ar2, e2, g1⟩ := int_at_ hr1 1 (by omega)
      subst e1
      obtain rfl := Option.some.inj e2
      rw [show ar.add 0 = ar by cases ar; rfl] at g0
      rw [show ar.add 1 = ⟨ar.block, ar.off + 1, none⟩ from by have e := add_field ar 0 1 (by omega); rw [show ar.add 0 = ar by cases ar; rfl] at e; exact e] at g1
      rw [h2]
      have hn0 : ((rd l1 0).toNat : Int) = rd l1 0 := Int.toNat_of_nonneg q1
      have hn1 : ((rd l1 1).toNat : Int) = rd l1 1 := Int.toNat_of_nonneg q2
      refine (times_r k a0_0 a0_1 a0_2 ad c0_3 l0_3 ar c1 (rd l1 0).toNat (rd l1 1).toNat er fr tr w hr0_3 hc0_3 (by rw [hn0]; exact g0) (by rw [hn1]; exact g1) hm hf).mono ?_
      rintro e w1 ⟨v, rfl, hv, hb⟩
      simp only at he
      by_cases h4 : er = 0
      · rw [if_neg (fun h => h h4)] at he hv
        simp only [Prod.mk.injEq] at he
        obtain ⟨k1, k2, k3⟩ := he
        subst k1 k2 k3
        exact ⟨v, by rw [if_neg (fun h => h h4), h4], hv, hb⟩
      · rw [if_pos h4] at he hv
        simp only [Prod.mk.injEq] at he
        obtain ⟨k1, k2, k3⟩ := he
        subst k1 k2 k3
        exact ⟨v, by rw [if_pos h4], hv, hb⟩
    · rw [if_neg h3] at h; cases h
  · rw [dif_neg h2] at h; cases h

-- NOT PRINTED: function 48 (slices_IndexFunc_int_int_48)

/-! ### slices_ContainsFunc_int_int_37: function 37, BY HAND -/
/-- Is a number above 1? (plan.Cost's 'twice') -/
def slices_ContainsFunc_int_int_37.f (l0 : List Int) (_a1 : Int) : Option Bool := some (l0.any fun x => decide (1 < x))
theorem twice_same (x : Int) (w : World) : Calls Tryd.prog 36 #[.int .i64 x] w fun e w' => e = .returned (.bool (decide (1 < x))) ∧ w' = w := by
  go_enter Tryd.func36, Tryd.ntmps36
  go_wp2
  go_ret
  exact ⟨rfl, rfl⟩
theorem hidC {p : Prop} (h : p) : Hid p := h
theorem intC_at {w : World} {A : Option Addr} {l : List Int} (h : Kd.C (Kd.int .i64) w A l.length l) (i : Nat) (hi : i < l.length) : ∃ ad, A = some ad ∧ w.cell? (ad.add i) = some (.int .i64 l[i]) := by
  obtain ⟨ad, e, hc⟩ := h.2.2 (by omega)
  obtain ⟨c, hs, hr, hcell⟩ := hc i _ (List.getElem?_eq_getElem hi)
  have e1 : c = [.int .i64 l[i]] := hr
  subst e1
  have h0 := hcell 0 _ rfl
  refine ⟨ad, e, ?_⟩
  have e2 : i * (Kd.int .i64).sz + 0 = i := Nat.mul_one i
  rwa [e2] at h0
set_option maxHeartbeats 4000000 in
theorem index_twice (A0 : Option Addr) (c0 : Nat) (l0 : List Int) (w : World) (hr0 : Kd.C (Kd.int .i64) w A0 l0.length l0) :
    Calls Tryd.prog 48 #[.slice A0 l0.length c0, .func (.func 36) #[] #[]] w fun e w' => ∃ i : Int, e = .returned (.int .i64 i) ∧ (decide (0 ≤ i) = l0.any fun x => decide (1 < x)) ∧ w' = w := by
  have hmax0 := Kd.C_max hr0
  have HR0 := hidC hr0
  clear hr0
  go_enter Tryd.func48, Tryd.ntmps48
  go_wp2
  go_loopg [8] (l0.length + 1) (fun kq v8 wr => ∃ (i : Nat), Hid (kq = l0.length + 1 - i) ∧ v8 = .int .i64 (i : Int) ∧ i ≤ l0.length ∧ Hid (wr = w) ∧ Hid (((l0.take i).any fun x => decide (1 < x)) = false))
  case atStart => exact ⟨0, hidC rfl, rfl, by omega, hidC rfl, hidC rfl⟩
  case round =>
    obtain ⟨i, HI, rfl, hi, HW, HA⟩ := hrel
    have hw := HW.out
    subst hw
    by_cases hlt : i < l0.length
    · have t1 : decide ((i : Int) < (l0.length : Int)) = true := decide_eq_true (by omega)
      have t1n : decide (i < l0.length) = true := decide_eq_true (by omega)
      obtain ⟨ad, e1, hx1⟩ := intC_at HR0.out i hlt
      cases e1
      have p1 : (0 ≤ (i : Int)) = True := eq_true (by omega)
      have q1 : ((i : Int) < (l0.length : Int)) = True := eq_true (by omega)
      obtain ⟨x, hx⟩ : ∃ x, x = l0[i] := ⟨_, rfl⟩
      rw [← hx] at hx1
      by_cases h6 : 1 < x
      · have d6 : decide (1 < x) = true := decide_eq_true h6
        have HE : Hid ((l0.any fun x => decide (1 < x)) = true) := hidC (by rw [List.any_eq_true]; exact ⟨l0[i], List.getElem_mem hlt, by rw [← hx]; exact d6⟩)
        clear hx
        go_wp2_with (go_at_call 36; (with_reducible refine (twice_same _ _).mono ?_); rintro e w1 ⟨rfl, rfl⟩)
        go_ret
        exact ⟨_, rfl, by rw [HE.out]; exact decide_eq_true (by omega), rfl⟩
      · have d6 : decide (1 < x) = false := decide_eq_false h6
        have HNX : Hid (((l0.take (i + 1)).any fun x => decide (1 < x)) = false) := hidC (by
          rw [List.take_succ_eq_append_getElem hlt, List.any_append, HA.out]
          simp only [List.any_cons, List.any_nil, ← hx, d6]; rfl)
        clear hx
        go_wp2_with (go_at_call 36; (with_reducible refine (twice_same _ _).mono ?_); rintro e w1 ⟨rfl, rfl⟩)
        go_roundg (l0.length + 1 - (i + 1))
        case measure => have := HI.out; omega
        case rel => exact ⟨i + 1, hidC rfl, by go_num, by omega, hidC rfl, HNX⟩
    · have t1 : decide ((i : Int) < (l0.length : Int)) = false := decide_eq_false (by omega)
      have t1n : decide (i < l0.length) = false := decide_eq_false (by omega)
      have HE : Hid ((l0.any fun x => decide (1 < x)) = false) := hidC (by have h_ := HA.out; rwa [List.take_of_length_le (by omega)] at h_)
      go_wp2
      go_ret
      exact ⟨_, rfl, by rw [HE.out]; rfl, rfl⟩
set_option maxHeartbeats 4000000 in
theorem slices_ContainsFunc_int_int_37.calls (A0 : Option Addr) (c0 : Nat) (l0 : List Int) (a1 : Int) (r : Bool) (w : World) (hr0 : Kd.C (Kd.int .i64) w A0 l0.length l0) (hc0 : l0.length ≤ c0) (h : slices_ContainsFunc_int_int_37.f l0 a1 = some r) :
    Calls Tryd.prog 37 #[.slice A0 l0.length c0, .func (.func 36) #[] #[]] w fun e w' => e = .returned (.bool r) ∧ w = w' := by
  have HR0 := hidC hr0
  have H := hidC (Option.some.inj h)
  clear hr0 hc0 h
  go_enter Tryd.func37, Tryd.ntmps37
  go_wp2_with (go_at_call 48; (with_reducible refine (index_twice _ _ l0 _ HR0.out).mono ?_); rintro e w1 ⟨i, rfl, hd, rfl⟩; have HD := hidC hd; clear hd)
  go_ret
  exact ⟨by have := HD.out; rw [H.out] at this; simp [this], rfl⟩

/-! ### slices_Index_int_int: function 49 -/
def slices_Index_int_int.l0 : Nat → List Int → Int → Int → Int → Option (Int)
  | 0, _, _, _, _ => none
  | k + 1, x0, x1, x7, x8 => if x8 < x7 then (if 0 ≤ x8 then (if x8 < (x0.length : Int) then (if x1 = (rd x0 x8) then (some x8) else (slices_Index_int_int.l0 k x0 x1 x7 (wrap64 (x8 + 1)))) else (none)) else (none)) else (some (-1))
def slices_Index_int_int.f (k : Nat) (l0 : List Int) (a1 : Int) : Option (Int) := slices_Index_int_int.l0 k l0 a1 (l0.length : Int) 0
theorem slices_Index_int_int.mono_l : ∀ k, (∀ y0 y1 y2 y3, LeO (slices_Index_int_int.l0 k y0 y1 y2 y3) (slices_Index_int_int.l0 (k + 1) y0 y1 y2 y3))
  | 0 => fun _ _ _ _ r h => by simp [slices_Index_int_int.l0] at h
  | k + 1 => by
    have ih0 := slices_Index_int_int.mono_l k
    · intro y0 y1 y2 y3
      unfold slices_Index_int_int.l0
      repeat' first
      | (with_reducible exact ih0 _ _ _ _)
      | (with_reducible exact LeO.refl _)
      | (with_reducible exact LeO.none _)
      | (with_reducible refine LeO.ite ?_ ?_)
      | (with_reducible refine LeO.bind ?_ (fun _ => ?_))
      | exact ih0 _ _ _ _
      | exact LeO.none _
      | refine LeO.ite ?_ ?_
      | refine LeO.bind ?_ (fun _ => ?_)
theorem slices_Index_int_int.mono : ∀ a0 a1 k, LeO (slices_Index_int_int.f k a0 a1) (slices_Index_int_int.f (k + 1) a0 a1) := by
  intro a0 a1 k
  have ih0 := slices_Index_int_int.mono_l k
  unfold slices_Index_int_int.f
  repeat' first
      | (with_reducible exact ih0 _ _ _ _)
      | (with_reducible exact LeO.refl _)
      | (with_reducible exact LeO.none _)
      | (with_reducible refine LeO.ite ?_ ?_)
      | (with_reducible refine LeO.bind ?_ (fun _ => ?_))
      | exact ih0 _ _ _ _
      | exact LeO.none _
      | refine LeO.ite ?_ ?_
      | refine LeO.bind ?_ (fun _ => ?_)
set_option maxHeartbeats 8000000 in
set_option maxRecDepth 100000 in
theorem slices_Index_int_int.calls (k : Nat) (A0 : Option Addr) (c0 : Nat) (l0 : List Int) (a1 : Int) (r : Int) (w : World) (hr0 : Kd.C (Kd.int .i64) w A0 l0.length l0) (hc0 : l0.length ≤ c0) (h : slices_Index_int_int.f k l0 a1 = some r) :
    Calls Tryd.prog 49 #[.slice A0 l0.length c0, .int .i64 a1] w fun e w' => e = .returned (.int .i64 r) ∧ Drawn0 w w' := by
  have HR0 := Aside0.mk hr0
  have HC0 := Aside0.mk hc0
  clear hr0 hc0
  have H : (slices_Index_int_int.l0 k l0 a1 (l0.length : Int) 0) = some r := h
  clear h
  have H' := Aside0.mk H
  clear H
  go_enter Tryd.func49, Tryd.ntmps49
  go_wp2
  go_loopg [8] k (fun kq v8 w' => ∃ (x8_1 : Int), v8 = .int .i64 x8_1 ∧ Aside0 (slices_Index_int_int.l0 kq l0 a1 (l0.length : Int) x8_1 = some r) ∧ Aside0 (kq ≤ k) ∧ Drawn0 w w')
  case atStart => exact ⟨(0), (by first | rfl | (simp; done) | (simp [*]; done)), H', ⟨Nat.le_refl _⟩, by repeat (first | exact Drawn0.refl _ | apply Drawn0.step)⟩
  case round =>
    clear H'
    try clear p2
    obtain ⟨x8_1, rfl, HA, HK1, ⟨m1, rfl⟩⟩ := hrel
    cases gk with
    | zero => exact absurd HA.out (by simp [slices_Index_int_int.l0])
    | succ k1 =>
      have H := HA.out
      clear HA
      simp only [slices_Index_int_int.l0] at H
      by_cases c3 : x8_1 < (l0.length : Int)
      · rw [if_pos c3] at H
        have c3b0 : decide (x8_1 < (l0.length : Int)) = true := decide_eq_true c3
        clear c3
        by_cases c4 : 0 ≤ x8_1
        · rw [if_pos c4] at H
          have c4b0 : decide (0 ≤ x8_1) = true := decide_eq_true c4
          clear c4
          by_cases c5 : x8_1 < (l0.length : Int)
          · rw [if_pos c5] at H
            have c5b0 : decide (x8_1 < (l0.length : Int)) = true := decide_eq_true c5
            clear c5
            by_cases c6 : a1 = (rd l0 x8_1)
            · rw [if_pos c6] at H
              have c6b0 : (a1 == (rd l0 x8_1)) = true := beq_iff_eq.mpr c6
              have c6b1 : (a1 != (rd l0 x8_1)) = false := bne_eq_false_iff_eq.mpr c6
              clear c6
              obtain rfl := Option.some.inj H
              have p196 : 0 ≤ (x8_1 : Int) := of_decide_eq_true (by first | (with_reducible assumption) | assumption)
              have q196 : x8_1 < (l0.length : Int) := of_decide_eq_true (by first | (with_reducible assumption) | assumption)
              obtain ⟨ad196, e196, hx196_0⟩ := Kd.at_int HR0.out x8_1 p196 q196
              cases e196
              replace p196 := eq_true p196
              replace q196 := eq_true q196
              go_wp2
              go_ret
              exact ⟨by first | rfl | (simp; done) | (simp [*]; done), by repeat (first | exact Drawn0.refl _ | apply Drawn0.step)⟩
            · rw [if_neg c6] at H
              have c6b0 : (a1 == (rd l0 x8_1)) = false := beq_eq_false_iff_ne.mpr c6
              have c6b1 : (a1 != (rd l0 x8_1)) = true := bne_iff_ne.mpr c6
              have H' := Aside0.mk H
              clear H
              have p196 : 0 ≤ (x8_1 : Int) := of_decide_eq_true (by first | (with_reducible assumption) | assumption)
              have q196 : x8_1 < (l0.length : Int) := of_decide_eq_true (by first | (with_reducible assumption) | assumption)
              obtain ⟨ad196, e196, hx196_0⟩ := Kd.at_int HR0.out x8_1 p196 q196
              cases e196
              replace p196 := eq_true p196
              replace q196 := eq_true q196
              go_wp2
              go_roundg k1
              case measure => have := HK1.out; omega
              case rel => exact ⟨(wrap64 (x8_1 + 1)), (by first | rfl | (simp; done) | (simp [*]; done)), H', ⟨by have := HK1.out; omega⟩, by repeat (first | exact Drawn0.refl _ | apply Drawn0.step)⟩
          · rw [if_neg c5] at H
            exact absurd H (by simp)
        · rw [if_neg c4] at H
          exact absurd H (by simp)
      · rw [if_neg c3] at H
        have c3b0 : decide (x8_1 < (l0.length : Int)) = false := decide_eq_false c3
        clear c3
        obtain rfl := Option.some.inj H
        go_wp2
        go_ret
        exact ⟨by first | rfl | (simp; done) | (simp [*]; done), by repeat (first | exact Drawn0.refl _ | apply Drawn0.step)⟩

/-! ### slices_Contains_int_int: function 38 -/
def slices_Contains_int_int.f (k : Nat) (l0 : List Int) (a1 : Int) : Option (Bool) := (slices_Index_int_int.f k l0 a1).bind fun t197 => (some (decide (t197 ≥ 0)))
theorem slices_Contains_int_int.mono : ∀ a0 a1 k, LeO (slices_Contains_int_int.f k a0 a1) (slices_Contains_int_int.f (k + 1) a0 a1) := by
  intro a0 a1 k
  unfold slices_Contains_int_int.f
  repeat' first
      | (with_reducible exact slices_Index_int_int.mono _ _ _)
      | (with_reducible exact LeO.refl _)
      | (with_reducible exact LeO.none _)
      | (with_reducible refine LeO.ite ?_ ?_)
      | (with_reducible refine LeO.bind ?_ (fun _ => ?_))
      | exact slices_Index_int_int.mono _ _ _
      | exact LeO.none _
      | refine LeO.ite ?_ ?_
      | refine LeO.bind ?_ (fun _ => ?_)
set_option maxHeartbeats 8000000 in
set_option maxRecDepth 100000 in
theorem slices_Contains_int_int.calls (k : Nat) (A0 : Option Addr) (c0 : Nat) (l0 : List Int) (a1 : Int) (r : Bool) (w : World) (hr0 : Kd.C (Kd.int .i64) w A0 l0.length l0) (hc0 : l0.length ≤ c0) (h : slices_Contains_int_int.f k l0 a1 = some r) :
    Calls Tryd.prog 38 #[.slice A0 l0.length c0, .int .i64 a1] w fun e w' => e = .returned (.bool r) ∧ Drawn0 w w' := by
  have HR0 := Aside0.mk hr0
  have HC0 := Aside0.mk hc0
  clear hr0 hc0
  have H : ((slices_Index_int_int.f k l0 a1).bind fun t197 => (some (decide (t197 ≥ 0)))) = some r := h
  clear h
  replace H := Option.bind_eq_some_iff.mp H
  obtain ⟨t197, A30, H⟩ := H
  replace H : (some (decide (t197 ≥ 0))) = some r := H
  have A3 := Aside0.mk A30
  clear A30
  obtain rfl := Option.some.inj H
  go_enter Tryd.func38, Tryd.ntmps38
  go_wp2_with (first | ((with_reducible refine gate_callee (f := 49) rfl ?_); refine goesL_ (some 7) rfl rfl Tryd.func49 (by kernel_rfl) rfl #[.slice A0 l0.length c0, .int .i64 a1] rfl (by (try simp only [List.map_toArray, List.map_cons, List.map_nil]); first | done | rfl | (simp only [List.length_drop, List.length_take]; rfl)) ?_; (with_reducible refine (slices_Index_int_int.calls k _ _ l0 a1 t197 _ ?side1 ?side2 A3.out).mono ?_); (case side1 => repeat (first | exact HR0.out | (with_reducible refine Kd.C_alloc ?_ _) | (with_reducible refine Kd.C_drewN ?_ _) | (with_reducible refine Kd.C_drew ?_))); (case side2 => exact HC0.out); rintro e w' ⟨rfl, ⟨nd, rfl⟩⟩; refine ⟨_, rfl, ?_⟩))
  go_ret
  exact ⟨by first | rfl | (simp; done) | (simp [*]; done), by repeat (first | exact Drawn0.refl _ | apply Drawn0.step)⟩

end Go.Proofs.YtdkhajgfifaibaaDoor.PA
