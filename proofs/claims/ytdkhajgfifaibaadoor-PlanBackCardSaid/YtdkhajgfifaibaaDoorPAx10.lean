-- Printed for this claim by wip/tools/xprint.py over the kit's print; the contracts marked BY HAND are this session's own.
import Derived.Test.YtdkhajgfifaibaaDoorPAx0
import Derived.Test.YtdkhajgfifaibaaDoorPAx9
namespace Go.Proofs.YtdkhajgfifaibaaDoor.PA
open Go.RowKit Go.Proofs.YtdkhajgfifaibaaDoorW.PrintWords Go.Proofs.YtdkhajgfifaibaaDoorW.PrintLast Go.Proofs.YtdkhajgfifaibaaDoorW.PrintMore
attribute [local go_sem] max2_int min2_int max_two min_two max_three min_three max_four min_four   -- for this text's walks alone
set_option linter.unusedVariables false
set_option linter.unusedSimpArgs false

/-! ### sched_car_visit: function 57, BY HAND -/
theorem gate_sv {P : Program} {ops : Array Oper} {Q : Exit → Act → World → Prop} {rest : List Oper} {o : Oper} {a : Act} {w : World} (t p x : Nat) (_ho : o.op = .store t (.tmp p) (.tmp x)) (h : wpList P ops Q (o :: rest) a w) : wpList P ops Q (o :: rest) a w := h
theorem r36_self {e : Nat} {w : World} {base : Nat} {ok : Nat → Prop} {v : Value} {xs : List S100} (h : Kd.R k100 e w base ok v xs) : Kd.R k100 e w base (fun k => v.ownBlock = some k) v xs := ⟨fun k hk => hk, h.2.imp_ (fun _ _ hp => hp)⟩
theorem rI_self {e : Nat} {w : World} {base : Nat} {ok : Nat → Prop} {v : Value} {xs : List Int} (h : Kd.R (Kd.int .i64) e w base ok v xs) : Kd.R (Kd.int .i64) e w base (fun k => v.ownBlock = some k) v xs := ⟨fun k hk => hk, h.2.imp_ (fun _ _ hp => hp)⟩
/-- The car in block g, its rows, and nothing else turned below base. -/
structure CarAt (w0 : World) (base g : Nat) (cs : Array Value) (vt vl : Value) (ts : List S100) (ls : List Int) (W : World) : Prop where
  hg : W.heap[g]? = some (.cells cs 84 (0, 0))
  rt : Kd.R k100 100 W base (fun _ => True) vt ts
  rl : Kd.R (Kd.int .i64) 3 W base (fun _ => True) vl ls
  hb : Below base w0 W
  hbg : base ≤ g
section
variable {w0 W W1 : World} {base g : Nat} {cs cs1 : Array Value} {vt vl : Value} {ts : List S100} {ls : List Int}
theorem CarAt.size (h : CarAt w0 base g cs vt vl ts ls W) : base ≤ W.heap.size := Nat.le_trans h.hbg (Nat.le_of_lt (blk_lt h.hg))
theorem CarAt.below (h : CarAt w0 base g cs vt vl ts ls W) (hb : Below W.heap.size W W1) : CarAt w0 base g cs vt vl ts ls W1 := ⟨blk_below h.hg hb, Kd.R_below h.rt hb, Kd.R_below h.rl hb, below_then h.hb h.size hb, h.hbg⟩
theorem CarAt.drew (h : CarAt w0 base g cs vt vl ts ls W) : CarAt w0 base g cs vt vl ts ls W.drew := h.below (below_drew (Below.refl _ _))
theorem CarAt.drewN (h : CarAt w0 base g cs vt vl ts ls W) (n : Nat) : CarAt w0 base g cs vt vl ts ls (W.drewN n) := h.below (pw_below_drewN (Below.refl _ _) n)
theorem CarAt.alloc (h : CarAt w0 base g cs vt vl ts ls W) (o : Obj) : CarAt w0 base g cs vt vl ts ls (W.alloc o) := h.below (below_alloc (Below.refl _ _) o)
theorem CarAt.at_ne (h : CarAt w0 base g cs vt vl ts ls W) : some W.heap.size ≠ vt.ownBlock ∧ some W.heap.size ≠ vl.ownBlock ∧ W.heap.size ≠ g ∧ base ≤ W.heap.size :=
  ⟨Kd.R_ne_new h.rt 0, Kd.R_ne_new h.rl 0, Nat.ne_of_gt (blk_lt h.hg), h.size⟩
theorem CarAt.away (h : CarAt w0 base g cs vt vl ts ls W) {k : Nat} (hk : some k ≠ vt.ownBlock ∧ some k ≠ vl.ownBlock ∧ k ≠ g ∧ base ≤ k) (hbel : ∀ B w0, Below B w0 W → B ≤ k → Below B w0 W1) (hfar : ∀ j, j ≠ k → W1.heap[j]? = W.heap[j]?) : CarAt w0 base g cs vt vl ts ls W1 :=
  ⟨(hfar g (fun e => hk.2.2.1 e.symm)).trans h.hg, Kd.R_mono (Kd.R_move (r36_self h.rt) (fun j hj => hfar j (fun e => hk.1 (by rw [← e]; exact hj.symm)))) (fun _ _ => trivial), Kd.R_mono (Kd.R_move (rI_self h.rl) (fun j hj => hfar j (fun e => hk.2.1 (by rw [← e]; exact hj.symm)))) (fun _ _ => trivial), hbel _ _ h.hb hk.2.2.2, h.hbg⟩
theorem CarAt.put (h : CarAt w0 base g cs vt vl ts ls W) (i : Nat) (u : Value) (e : cs.setIfInBounds i u = cs1) : CarAt w0 base g cs1 vt vl ts ls (W.setCell ⟨g, i, none⟩ u) :=
  ⟨blk_put h.hg i u e, Kd.R_set h.rt h.hg (by decide) i u, Kd.R_set h.rl h.hg (by decide) i u, h.hb.setCell h.hbg _, h.hbg⟩
theorem CarAt.turn (h : CarAt w0 base g cs vt vl ts ls W) (hg1 : W1.heap[g]? = some (.cells cs1 84 (0, 0))) (hgr : W.grownBy W1 (some g)) : CarAt w0 base g cs1 vt vl ts ls W1 :=
  ⟨hg1, Kd.R_mono (Kd.R_grown (r36_self h.rt) hgr (fun k hk e => Kd.R_ne h.rt h.hg (by decide) (e.symm.trans hk.symm))) (fun _ _ => trivial), Kd.R_mono (Kd.R_grown (rI_self h.rl) hgr (fun k hk e => Kd.R_ne h.rl h.hg (by decide) (e.symm.trans hk.symm))) (fun _ _ => trivial), pw_below_grown h.hb (some g) h.size hgr (fun k hk => by rw [← Option.some.inj hk]; exact h.hbg), h.hbg⟩
theorem CarAt.appT {v1 : Value} {ts1 : List S100} (h : CarAt w0 base g cs vt vl ts ls W) (hr : Kd.R k100 100 W1 base (fun _ => True) v1 ts1) (hb : Below base w0 W1) (hgr : W.grownBy W1 vt.ownBlock) : CarAt w0 base g cs v1 vl ts1 ls W1 :=
  ⟨blk_grown h.hg hgr (Kd.R_ne h.rt h.hg (by decide)), hr, Kd.R_over h.rl h.rt (by decide) hgr, hb, h.hbg⟩
theorem CarAt.appL {v1 : Value} {ls1 : List Int} (h : CarAt w0 base g cs vt vl ts ls W) (hr : Kd.R (Kd.int .i64) 3 W1 base (fun _ => True) v1 ls1) (hb : Below base w0 W1) (hgr : W.grownBy W1 vl.ownBlock) : CarAt w0 base g cs vt v1 ts ls1 W1 :=
  ⟨blk_grown h.hg hgr (Kd.R_ne h.rl h.hg (by decide)), Kd.R_over h.rt h.rl (by decide) hgr, hr, hb, h.hbg⟩
end
theorem info_time : (Tryd.prog.info? 100).map (fun i => (i.zero, i.size, i.bytes)) = some (some (.agg #[.int .i64 0, .int .i64 0, .int .i64 0]), 3, 24) := by kernel_rfl
theorem info_int_ : (Tryd.prog.info? 3).map (fun i => (i.zero, i.size, i.bytes)) = some (some (.int .i64 0), 1, 8) := by kernel_rfl
section
variable {ops : Array Oper} {o : Oper} {a : Act} {Q : Exit → Act → World → Prop} {Kc : Act → World → Prop} {w0 W : World} {base g : Nat} {cs : Array Value} {vt vl : Value} {ts : List S100} {ls : List Int}
theorem time_row {b : Nat} (tm : S100) (hb : W.heap[b]? = some (.cells #[.int .i64 tm.f0, .int .i64 tm.f1, .int .i64 tm.f2] 100 (0, 0))) : ReadsRow (fun (x : S100) cs => cs = [.int .i64 x.f0, .int .i64 x.f1, .int .i64 x.f2]) 3 W (some ⟨b, 0, none⟩) 1 [tm] := by
  refine ⟨rfl, by decide, fun _ => ⟨_, rfl, fun j p hj => ⟨_, ?_, rfl, fun i u hi => ?_⟩⟩⟩
  · rfl
  · cases j with
    | zero =>
      obtain rfl : tm = p := by simpa using hj
      rw [add_plain, Nat.zero_mul, Nat.zero_add, blk_cell hb i, ← hi, List.getElem?_toArray]
    | succ j => simp at hj
theorem int_row {b : Nat} (x : Int) (hb : W.heap[b]? = some (.cells #[.int .i64 x] 3 (0, 0))) : ReadsRow (fun (x : Int) cs => cs = [.int .i64 x]) 1 W (some ⟨b, 0, none⟩) 1 [x] := by
  refine ⟨rfl, by decide, fun _ => ⟨_, rfl, fun j p hj => ⟨_, ?_, rfl, fun i u hi => ?_⟩⟩⟩
  · rfl
  · cases j with
    | zero =>
      obtain rfl : x = p := by simpa using hj
      rw [add_plain, Nat.zero_mul, Nat.zero_add, blk_cell hb i, ← hi, List.getElem?_toArray]
    | succ j => simp at hj
theorem appT_step {N : Tmp} (hd : o.dst = some N) (hw : Region.wanted o (yielded ops a.tmps) = true) (s x : Operand) (ho : o.op = .call { callee := .builtin .append, args := #[s, x], argTypes := #[61, 61] }) (b : Nat) (tm : S100) (hs : a.eval s = vt) (hx : a.eval x = .slice (some ⟨b, 0, none⟩) 1 1)
    (hb : W.heap[b]? = some (.cells #[.int .i64 tm.f0, .int .i64 tm.f1, .int .i64 tm.f2] 100 (0, 0))) (hc : CarAt w0 base g cs vt vl ts ls W) (hl : ts.length ≤ 1000)
    (h : ∀ v1 w1, CarAt w0 base g cs v1 vl (ts ++ [tm]) ls w1 → W.grownBy w1 vt.ownBlock → Kc (a.put (some N) v1) w1) :
    if Region.wanted o (yielded ops a.tmps) = true then Oper.wp Tryd.prog o a W Kc Q else Kc (a.put o.dst undef) W :=
  Kd.R_append_rows_step k100 (w0 := w0) base hw s x 61 100 (.agg #[.int .i64 0, .int .i64 0, .int .i64 0]) 24 ho Tryd.underlying61 info_time rfl (by decide) (by omega) vt ts [tm] (some ⟨b, 0, none⟩) 1 1 (fun _ => True) (fun _ => False) hs hx
    hc.rt (time_row tm hb) (fun x cs h => by subst h; exact k100_mkM _ _ _ x) (fun _ h => h.elim) (fun _ _ => trivial) hc.hb hc.size (by omega) (fun v1 w1 hr hb1 hg _ => by rw [hd]; exact h v1 w1 (hc.appT hr hb1 hg) hg)
theorem appL_step {N : Tmp} (hd : o.dst = some N) (hw : Region.wanted o (yielded ops a.tmps) = true) (s x : Operand) (ho : o.op = .call { callee := .builtin .append, args := #[s, x], argTypes := #[36, 36] }) (b : Nat) (y : Int) (hs : a.eval s = vl) (hx : a.eval x = .slice (some ⟨b, 0, none⟩) 1 1)
    (hb : W.heap[b]? = some (.cells #[.int .i64 y] 3 (0, 0))) (hc : CarAt w0 base g cs vt vl ts ls W) (hl : ls.length ≤ 1000)
    (h : ∀ v1 w1, CarAt w0 base g cs vt v1 ts (ls ++ [y]) w1 → W.grownBy w1 vl.ownBlock → Kc (a.put (some N) v1) w1) :
    if Region.wanted o (yielded ops a.tmps) = true then Oper.wp Tryd.prog o a W Kc Q else Kc (a.put o.dst undef) W :=
  Kd.R_append_rows_step (Kd.int .i64) (w0 := w0) base hw s x 36 3 (.int .i64 0) 8 ho Tryd.underlying36 info_int_ rfl (by decide) (by omega) vl ls [y] (some ⟨b, 0, none⟩) 1 1 (fun _ => True) (fun _ => False) hs hx
    hc.rl (int_row y hb) (fun x cs h => by subst h; rfl) (fun _ h => h.elim) (fun _ _ => trivial) hc.hb hc.size (by omega) (fun v1 w1 hr hb1 hg _ => by rw [hd]; exact h v1 w1 (hc.appL hr hb1 hg) hg)
end
set_option maxHeartbeats 16000000 in
set_option maxRecDepth 100000 in
/-- A visit that may be. -/
theorem visit_r (w0 : World) (base g : Nat) (p cs rm : Int) (ad : Addr) (sc : Nat) (stops : List S58) (a i : Nat) (now far load seen on : Int) (vt vl : Value) (ts : List S100) (ls : List Int) (b1 b2 : Bool) (dd : Int) (w : World) (ha : a < stops.length) (hi : i < stops.length) (h1 : 1 ≤ i) (h2 : (i : Int) ≤ 2 * p) (hp : p ≤ 1000000)
    (hc : CarAt w0 base g #[.int .i64 p, .int .i64 cs, .int .i64 rm, .slice (some ad) stops.length sc, .int .i64 (a : Int), .int .i64 now, .int .i64 far, .int .i64 load, .int .u64 seen, .int .u64 on, vt, vl] vt vl ts ls w) (hr : Kd.C k58 w (some ad) stops.length stops) (hd : plane_Far.f stops[a].f0 stops[a].f1 stops[a].f2 stops[a].f3 stops[a].f4 stops[a].f5 stops[i].f0 stops[i].f1 stops[i].f2 stops[i].f3 stops[i].f4 stops[i].f5 = some dd) (hb1 : set_Has.f seen (i : Int) = some b1) (hb2 : set_Has.f seen ((i : Int) - p) = some b2)
    (hE : visE p rm load stops[i].f2 i b1 b2 = 0) (bg : Int) (hbg : bg = if wrap64 (now + dd) < stops[i].f3 then stops[i].f3 else wrap64 (now + dd)) (hdue : ¬ stops[i].f4 < bg) (sw : Int) (hw : set_With.f seen (i : Int) = some sw) (on1 : Int) (ho : ((i : Int) ≤ p → set_With.f on (i : Int) = some on1) ∧ (¬ (i : Int) ≤ p → set_Without.f on ((i : Int) - p) = some on1)) (hl1 : ts.length ≤ 1000) (hl2 : ls.length ≤ 1000) :
    Calls Tryd.prog 57 #[.pointer (some ⟨g, 0, none⟩), .int .i64 (i : Int)] w fun e w' => e = .returned (.int .i64 0) ∧ ∃ vt1 vl1, CarAt w0 base g #[.int .i64 p, .int .i64 cs, .int .i64 rm, .slice (some ad) stops.length sc, .int .i64 (i : Int), .int .i64 (wrap64 (bg + stops[i].f5)), .int .i64 (wrap64 (far + dd)), .int .i64 (wrap64 (load + stops[i].f2)), .int .u64 sw, .int .u64 on1, vt1, vl1] vt1 vl1 (ts ++ [⟨wrap64 (now + dd), bg, wrap64 (bg + stops[i].f5)⟩]) (ls ++ [wrap64 (load + stops[i].f2)]) w' := by
  have HC := hidK hc
  have HR := hidK hr
  have HI := hidK (show Stop6 w ad stops i hi by obtain ⟨ad2, e, h⟩ := stop6 hr i hi; obtain rfl := Option.some.inj e; exact h)
  have HD := hidK hd
  have H1 := hidK hb1
  have H2 := hidK hb2
  have HE := hidK hE
  have HBG := hidK hbg
  have ddue : decide (stops[i].f4 < bg) = false := decide_eq_false hdue
  have hmax := Kd.C_max hr
  have hmx := hbg.symm
  have HW := hidK hw
  have HO := hidK ho
  have HSN := hidK hc.at_ne.2.2.1
  clear hc hr hd hb1 hb2 hE hbg hw ho
  have q3 : (0 : Int) ≤ (i : Int) := by omega
  have q4 : (i : Int) < (stops.length : Int) := by omega
  have hv := (visits_r g p cs rm ad sc stops i (a : Int) now far load seen on vt vl b1 b2 w hi h1 h2 hp HC.out.hg HR.out H1.out H2.out)
  rw [HE.out] at hv
  have HV := hidK hv
  clear hv
  have c3 := blk_cell HC.out.hg 3
  obtain ⟨x0, x1, x2, x3, x4, x5⟩ := HI.out
  go_enter Tryd.func57, Tryd.ntmps57
  go_wp2_with (first | ((with_reducible refine gate_sv 58 6 22 rfl ?_); refine zqv 58 _ _ 0 6 #[.int .i64 stops[i].f0, .int .i64 stops[i].f1, .int .i64 stops[i].f2, .int .i64 stops[i].f3, .int .i64 stops[i].f4, .int .i64 stops[i].f5] (blk_new (w.drewN n1) (.cells #[.int .i64 0, .int .i64 0, .int .i64 0, .int .i64 0, .int .i64 0, .int .i64 0] 58)) rfl rfl rfl rfl rfl rfl (by rfl) (by kernel_rfl) (by exact Nat.le_of_ble_eq_true rfl) (by rfl) ?_; intro wE hb1 hbel hfar; have HS1 := hidK (show wE.heap[w.heap.size]? = some (.cells #[.int .i64 stops[i].f0, .int .i64 stops[i].f1, .int .i64 stops[i].f2, .int .i64 stops[i].f3, .int .i64 stops[i].f4, .int .i64 stops[i].f5] 58 (0, 0)) from hb1); have HC1 := hidK (((HC.out.drewN n1).alloc _).away (HC.out.drewN n1).at_ne hbel hfar); have HR1 := hidK (Kd.C_below HR.out (hbel _ _ (below_alloc (pw_below_drewN (Below.refl _ _) n1) _) (Nat.le_refl _))); clear hb1 hbel hfar) | (go_at_call 61; (with_reducible refine HV.out.mono ?_); rintro e_ w1 ⟨rfl, ⟨n1, rfl⟩⟩) | (go_at_call 62; refine (drive_r g p cs rm ad sc stops a i now far load seen on vt vl dd _ ha hi HC1.out.hg HR1.out HD.out).mono ?_; rintro e_ w2 ⟨rfl, hb_, hgr_⟩; have HC2 := hidK (HC1.out.turn hb_ hgr_); have HS2 := hidK (blk_grown HS1.out hgr_ (fun e => HC.out.at_ne.2.2.1 (Option.some.inj e))); clear hb_ hgr_; have s2 := blk_cell HS2.out 2; have s3 := blk_cell HS2.out 3) | ((with_reducible refine gate_sv 100 8 31 rfl ?_); go_loud (refine zqv 100 _ _ 0 3 #[.int .i64 (wrap64 (now + dd)), .int .i64 bg, .int .i64 0] (blk_new w2 (.cells #[.int .i64 0, .int .i64 0, .int .i64 0] 100)) rfl rfl rfl rfl (u := .agg #[.int .i64 (wrap64 (now + dd)), .int .i64 bg, .int .i64 0]) (by rw [HBG.out]; rfl) rfl (by rfl) (by kernel_rfl) (by exact Nat.le_of_ble_eq_true rfl) (by rfl) ?_; intro wF hb1 hbel hfar; have HT3 := hidK hb1; have HC3 := hidK ((HC2.out.alloc _).away HC2.out.at_ne hbel hfar); have HTN := hidK HC2.out.at_ne; have HS3 := hidK ((hfar _ (Nat.ne_of_lt (blk_lt HS2.out))).trans (blk_alloc HS2.out _)); clear hb1 hbel hfar s2 s3; have t1 := blk_cell HT3.out 1; have s4 := blk_cell HS3.out 4; have s5 := blk_cell HS3.out 5)) | ((with_reducible refine gate_sv 3 42 41 rfl ?_); go_loud (refine zqv 3 _ _ 2 1 #[.int .i64 (wrap64 (now + dd)), .int .i64 bg, .int .i64 (wrap64 (bg + stops[i].f5))] HT3.out rfl rfl rfl rfl (u := .int .i64 (wrap64 (bg + stops[i].f5))) rfl rfl (by rfl) (by kernel_rfl) (by exact Nat.le_of_ble_eq_true rfl) (by rfl) ?_; intro wG hb1 hbel hfar; have HT4 := hidK hb1; have HC4 := hidK (HC3.out.away HTN.out hbel hfar); have HS4 := hidK ((hfar _ (Nat.ne_of_lt (blk_lt HS2.out))).trans HS3.out); clear hb1 hbel hfar t1 s4 s5)))
  refine start_ (n := 27) (S := fun w' => w'.cell? ⟨w2.heap.size, 2, none⟩ = some (.int .i64 (wrap64 (bg + stops[i].f5))) ∧ w'.cell? ⟨g, 7, none⟩ = some (.int .i64 load) ∧ w'.cell? ⟨w.heap.size, 2, none⟩ = some (.int .i64 stops[i].f2) ∧ w'.cell? ⟨g, 8, none⟩ = some (.int .u64 seen)) (ds := [23, 26]) (zqB 27 0) (by kernel_rfl) rfl rfl (⟨blk_cell HT4.out 2, blk_cell HC4.out.hg 7, blk_cell HS4.out 2, blk_cell HC4.out.hg 8⟩) (fun hHeld => ?_)
  generalize hD : wG.drew = V at hHeld ⊢
  have HC5 := hidK (show CarAt _ _ _ _ _ _ _ _ V by rw [← hD]; exact HC4.out.drew)
  have HT5 := hidK (show V.heap[w2.heap.size]? = some (.cells #[.int .i64 (wrap64 (now + dd)), .int .i64 bg, .int .i64 (wrap64 (bg + stops[i].f5))] 100 (0, 0)) by rw [← hD]; exact blk_drew HT4.out)
  have HS5 := hidK (show V.heap[w.heap.size]? = some (.cells #[.int .i64 stops[i].f0, .int .i64 stops[i].f1, .int .i64 stops[i].f2, .int .i64 stops[i].f3, .int .i64 stops[i].f4, .int .i64 stops[i].f5] 58 (0, 0)) by rw [← hD]; exact blk_drew HS4.out)
  clear hD HC4 HT4 HS4 HS3 HT3 HC3 HS2 HC2 HC1 HS1 HR1 HBG hmx
  refine zqp 0 (some 43) (zqB 27 1) (by kernel_rfl) (h := ?_)
  refine zqp 1 (some 44) (zqB 27 3) (by kernel_rfl) (h := ?_)
  refine zqp 2 (some 45) (zqB 27 7) (by kernel_rfl) (h := ?_)
  refine zqp 3 (some 46) (zqB 27 15) (by kernel_rfl) (h := ?_)
  refine zqt 4 (some 47) (zqB 27 31) (by kernel_rfl) hHeld (h := ?_)
  refine zqp 5 (some 48) (zqB 27 63) (by kernel_rfl) (h := ?_)
  refine zqp 6 (some 49) (zqB 27 127) (by kernel_rfl) (h := ?_)
  refine zqp 7 (some 50) (zqB 27 255) (by kernel_rfl) (h := ?_)
  refine zqt 8 (some 51) (zqB 27 511) (by kernel_rfl) hHeld (h := ?_)
  refine zqp 9 (some 52) (zqB 27 1023) (by kernel_rfl) (h := ?_)
  refine zqt 10 (some 53) (zqB 27 2047) (by kernel_rfl) hHeld (h := ?_)
  refine zqp 11 (some 54) (zqB 27 4095) (by kernel_rfl) (h := ?_)
  refine zqp 12 (some 55) (zqB 27 8191) (by kernel_rfl) (h := ?_)
  refine zqp 13 (some 56) (zqB 27 16383) (by kernel_rfl) (h := ?_)
  refine zqp 14 (some 57) (zqB 27 32767) (by kernel_rfl) (h := ?_)
  refine zqt 15 (some 58) (zqB 27 65535) (by kernel_rfl) hHeld (h := ?_)
  refine zqp 16 (some 59) (zqB 27 131071) (by kernel_rfl) (h := ?_)
  refine one_ (i := 17) (N := some 60) (zqB 27 262143) rfl rfl (by kernel_rfl) (by decide) (fun K hK => ?_)
  refine goes_ Tryd.func63 (by kernel_rfl) rfl #[.int .u64 seen, .int .i64 (i : Int)] (by rfl) rfl rfl (by first | rfl | (simp only [List.map_toArray, List.map_cons, List.map_nil]; rfl)) ?_
  refine (set_With.calls seen (i : Int) sw _ HW.out).mono ?_
  rintro e w1 ⟨rfl, ⟨nw, rfl⟩⟩
  refine ⟨_, rfl, ?_⟩
  have HC6 := hidK (HC5.out.drewN nw)
  have HT6 := hidK (blk_drewN HT5.out nw)
  have HS6 := hidK (blk_drewN HS5.out nw)
  refine hK.out _ _ hHeld (fun hHeld => ?_)
  clear hK K HC5 HT5 HS5
  refine norm_ (a' := ?_) ?_ ?_
  rotate_left
  · show Act.put _ _ _ = _
    simp only [Act.put, List.setIfInBounds_toArray, List.set_cons_zero, List.set_cons_succ, i64_w, i32_w]
    rfl
  refine zqp 18 (some 61) (zqB 27 524287) (by kernel_rfl) (h := ?_)
  refine zqp 19 (some 62) (zqB 27 1048575) (by kernel_rfl) (h := ?_)
  refine one_ (i := 20) (N := none) (zqB 27 2097151) rfl rfl (by kernel_rfl) (by decide) (fun K hK => ?_)
  refine want_ (by rfl) ?_
  have hc0 := blk_cell HC6.out.hg 5
  have hf0 := blk_frozen HC6.out.hg 5
  go_simp
  have HC7 := hidK (HC6.out.put (cs1 := #[.int .i64 p, .int .i64 cs, .int .i64 rm, .slice (some ad) stops.length sc, .int .i64 (i : Int), .int .i64 (wrap64 (bg + stops[i].f5)), .int .i64 (wrap64 (far + dd)), .int .i64 load, .int .u64 seen, .int .u64 on, vt, vl]) 5 (Value.int .i64 (wrap64 (bg + stops[i].f5))) rfl)
  have HT7 := hidK (blk_far HT6.out (p := ⟨g, 5, none⟩) HTN.out.2.2.1 (Value.int .i64 (wrap64 (bg + stops[i].f5))))
  have HS7 := hidK (blk_far HS6.out (p := ⟨g, 5, none⟩) HSN.out (Value.int .i64 (wrap64 (bg + stops[i].f5))))
  refine hK.out _ _ ⟨blk_cell HT7.out 2, blk_cell HC7.out.hg 7, blk_cell HS7.out 2, blk_cell HC7.out.hg 8⟩ (fun hHeld => ?_)
  clear hK K hc0 hf0
  generalize hD : World.setCell _ _ (Value.int .i64 (wrap64 (bg + stops[i].f5))) = W7 at HC7 HT7 HS7 hHeld ⊢
  clear hD HC6 HT6 HS6
  refine zqp 21 (some 63) (zqB 27 4194303) (by kernel_rfl) (h := ?_)
  refine zqp 22 (some 64) (zqB 27 8388607) (by kernel_rfl) (h := ?_)
  refine last_ (i := 23) (N := none) (zqB 27 16777215) rfl rfl (by kernel_rfl) (by decide) (fun K hK => ?_)
  refine want_ (by rfl) ?_
  have hc0 := blk_cell HC7.out.hg 7
  have hf0 := blk_frozen HC7.out.hg 7
  go_simp
  have HC8 := hidK (HC7.out.put (cs1 := #[.int .i64 p, .int .i64 cs, .int .i64 rm, .slice (some ad) stops.length sc, .int .i64 (i : Int), .int .i64 (wrap64 (bg + stops[i].f5)), .int .i64 (wrap64 (far + dd)), .int .i64 (wrap64 (load + stops[i].f2)), .int .u64 seen, .int .u64 on, vt, vl]) 7 (Value.int .i64 (wrap64 (load + stops[i].f2))) rfl)
  have HT8 := hidK (blk_far HT7.out (p := ⟨g, 7, none⟩) HTN.out.2.2.1 (Value.int .i64 (wrap64 (load + stops[i].f2))))
  refine hK.out _ _ ?_
  clear hK K hc0 hf0
  generalize hD : World.setCell _ _ (Value.int .i64 (wrap64 (load + stops[i].f2))) = W8 at HC8 HT8 ⊢
  clear hD HC7 HT7
  refine zqp 24 (some 65) (zqB 27 33554431) (by kernel_rfl) (h := ?_)
  refine zqp 25 (some 66) (zqB 27 67108863) (by kernel_rfl) (h := ?_)
  refine last_ (i := 26) (N := none) (zqB 27 134217727) rfl rfl (by kernel_rfl) (by decide) (fun K hK => ?_)
  refine want_ (by rfl) ?_
  have hc0 := blk_cell HC8.out.hg 8
  have hf0 := blk_frozen HC8.out.hg 8
  go_simp
  have HC9 := hidK (HC8.out.put (cs1 := #[.int .i64 p, .int .i64 cs, .int .i64 rm, .slice (some ad) stops.length sc, .int .i64 (i : Int), .int .i64 (wrap64 (bg + stops[i].f5)), .int .i64 (wrap64 (far + dd)), .int .i64 (wrap64 (load + stops[i].f2)), .int .u64 sw, .int .u64 on, vt, vl]) 8 (Value.int .u64 sw) rfl)
  have HT9 := hidK (blk_far HT8.out (p := ⟨g, 8, none⟩) HTN.out.2.2.1 (Value.int .u64 sw))
  refine hK.out _ _ ?_
  clear hK K hc0 hf0
  generalize hD : World.setCell _ _ (Value.int .u64 sw) = W9 at HC9 HT9 ⊢
  clear hD HC8 HT8
  refine done_ (by kernel_rfl) ?_
  by_cases hip : (i : Int) ≤ p
  · have c0 := blk_cell HC9.out.hg 0
    have c9 := blk_cell HC9.out.hg 9
    have dip : decide ((i : Int) ≤ p) = true := decide_eq_true hip
    go_wp2_with (go_at_call 63; (with_reducible refine (set_With.calls on (i : Int) on1 _ (HO.out.1 hip)).mono ?_); rintro e_ w_ ⟨rfl, ⟨n9, rfl⟩⟩; have HC10 := hidK (HC9.out.drewN n9); have HT10 := hidK (blk_drewN HT9.out n9); have d9 := blk_cell HC10.out.hg 9; have f9 := blk_frozen HC10.out.hg 9)
    have HC11 := hidK (HC10.out.put (cs1 := #[.int .i64 p, .int .i64 cs, .int .i64 rm, .slice (some ad) stops.length sc, .int .i64 (i : Int), .int .i64 (wrap64 (bg + stops[i].f5)), .int .i64 (wrap64 (far + dd)), .int .i64 (wrap64 (load + stops[i].f2)), .int .u64 sw, .int .u64 on1, vt, vl]) 9 (Value.int .u64 on1) rfl)
    have HT11 := hidK (blk_far HT10.out (p := ⟨g, 9, none⟩) HTN.out.2.2.1 (Value.int .u64 on1))
    clear HC9 HT9 HC10 HT10 d9 f9 c0 c9
    generalize World.setCell _ _ (Value.int .u64 on1) = W11 at HC11 HT11 ⊢
    refine start_ (n := 25) (S := fun w' => w'.cell? ⟨g, 10, none⟩ = some vt ∧ w'.cell? ⟨w2.heap.size, 0, none⟩ = some (.int .i64 (wrap64 (now + dd))) ∧ w'.cell? ⟨w2.heap.size, 1, none⟩ = some (.int .i64 bg) ∧ w'.cell? ⟨w2.heap.size, 2, none⟩ = some (.int .i64 (wrap64 (bg + stops[i].f5))) ∧ w'.cell? ⟨g, 11, none⟩ = some vl ∧ w'.cell? ⟨g, 7, none⟩ = some (.int .i64 (wrap64 (load + stops[i].f2)))) (ds := [21, 24]) (zqB 25 0) (by kernel_rfl) rfl rfl ((by exact ⟨blk_cell HC11.out.hg 10, blk_cell HT11.out 0, blk_cell HT11.out 1, blk_cell HT11.out 2, blk_cell HC11.out.hg 11, blk_cell HC11.out.hg 7⟩)) (fun hHeld => ?_)
    generalize hD : W11.drew = W20 at hHeld ⊢
    have HC20 := hidK (show CarAt _ _ _ _ _ _ _ _ W20 by rw [← hD]; exact HC11.out.drew)
    have HT20 := hidK (show W20.heap[w2.heap.size]? = some (.cells #[.int .i64 (wrap64 (now + dd)), .int .i64 bg, .int .i64 (wrap64 (bg + stops[i].f5))] 100 (0, 0)) by rw [← hD]; exact blk_drew HT11.out)
    clear hD HC11 HT11
    refine zqp 0 (some 98) (zqB 25 1) (by kernel_rfl) (h := ?_)
    refine zqp 1 (some 99) (zqB 25 3) (by kernel_rfl) (h := ?_)
    refine zqp 2 (some 100) (zqB 25 7) (by kernel_rfl) (h := ?_)
    refine zqp 3 (some 101) (zqB 25 15) (by kernel_rfl) (h := ?_)
    refine zqp 4 (some 102) (zqB 25 31) (by kernel_rfl) (h := ?_)
    refine zqt 5 (some 103) (zqB 25 63) (by kernel_rfl) hHeld (h := ?_)
    refine zqt 6 (some 104) (zqB 25 127) (by kernel_rfl) hHeld (h := ?_)
    refine zqp 9 (some 107) (zqB 25 639) (by kernel_rfl) (h := ?_)
    refine zqp 10 (some 108) (zqB 25 1663) (by kernel_rfl) (h := ?_)
    refine zqp 11 (some 109) (zqB 25 3711) (by kernel_rfl) (h := ?_)
    refine zqt 12 (some 110) (zqB 25 7807) (by kernel_rfl) hHeld (h := ?_)
    refine zqp 13 (some 111) (zqB 25 15999) (by kernel_rfl) (h := ?_)
    refine zqp 14 (some 112) (zqB 25 32383) (by kernel_rfl) (h := ?_)
    refine zqp 15 (some 113) (zqB 25 65151) (by kernel_rfl) (h := ?_)
    refine zqt 16 (some 114) (zqB 25 130687) (by kernel_rfl) hHeld (h := ?_)
    refine join_ (σ := Value × Value × Value × Value) 6 (zqB 25 524287) (fun s_ => [(105, s_.1), (106, s_.2.1), (115, s_.2.2.1), (116, s_.2.2.2)]) (fun s_ w' => CarAt w0 base g #[.int .i64 p, .int .i64 cs, .int .i64 rm, .slice (some ad) stops.length sc, .int .i64 (i : Int), .int .i64 (wrap64 (bg + stops[i].f5)), .int .i64 (wrap64 (far + dd)), .int .i64 (wrap64 (load + stops[i].f2)), .int .u64 sw, .int .u64 on1, vt, vl] s_.2.1 s_.2.2.2 (ts ++ [(⟨wrap64 (now + dd), bg, wrap64 (bg + stops[i].f5)⟩ : S100)]) (ls ++ [(wrap64 (load + stops[i].f2))]) w') ?hcont ?hord
    case hord =>
      intro hCont
      refine two_ (i := 7) (j := 17) (Ni := some 105) (Nj := some 115) (zqB 25 130815) (zqB 25 261759) rfl rfl rfl rfl (by kernel_rfl) (by decide) (by decide) (fun K hK => ?_) (fun K hK => ?_)
      · refine value_ (w1 := ?_) (v := ?_) (by rfl) rfl ?_ ?_
        rotate_left 2
        · go_simp
          constructor
          · rfl
          · rfl
        have HC21 := hidK (HC20.out.alloc (.cells #[.int .i64 (wrap64 (now + dd)), .int .i64 bg, .int .i64 (wrap64 (bg + stops[i].f5))] 100 (0, 0)))
        have HT21 := hidK (blk_alloc HT20.out (.cells #[.int .i64 (wrap64 (now + dd)), .int .i64 bg, .int .i64 (wrap64 (bg + stops[i].f5))] 100 (0, 0)))
        have HBT := hidK (blk_new W20 (.cells #[.int .i64 (wrap64 (now + dd)), .int .i64 bg, .int .i64 (wrap64 (bg + stops[i].f5))] 100 (0, 0)))
        have HNT := hidK (HC20.out.at_ne)
        refine hK.out _ _ ⟨blk_cell HC21.out.hg 10, blk_cell HT21.out 0, blk_cell HT21.out 1, blk_cell HT21.out 2, blk_cell HC21.out.hg 11, blk_cell HC21.out.hg 7⟩ (fun hHeld => ?_)
        clear hK K HC20 HT20
        obtain ⟨bT, hbT⟩ : ∃ b, b = W20.heap.size := ⟨_, rfl⟩
        rw [← hbT] at HBT HNT ⊢
        clear hbT
        generalize hD : World.alloc W20 _ = W21 at HC21 HT21 HBT hHeld ⊢
        clear hD
        refine norm_ (a' := ?_) ?_ ?_
        rotate_left
        · show Act.put _ _ _ = _
          simp only [Act.put, List.setIfInBounds_toArray, List.set_cons_zero, List.set_cons_succ, i64_w, i32_w]
          rfl
        refine two_ (i := 8) (j := 17) (Ni := some 106) (Nj := some 115) (zqB 25 131071) (zqB 25 261887) rfl rfl rfl rfl (by kernel_rfl) (by decide) (by decide) (fun K hK => ?_) (fun K hK => ?_)
        · refine appT_step (N := 106) rfl (by rfl) (.tmp 103) (.tmp 105) rfl bT (⟨wrap64 (now + dd), bg, wrap64 (bg + stops[i].f5)⟩ : S100) rfl rfl HBT.out HC21.out hl1 ?_
          intro vT W22 hc_ hgr_
          have HC22 := hidK hc_
          have HT22 := hidK (blk_grown HT21.out hgr_ HTN.out.1)
          clear hc_ hgr_
          refine hK.out _ _ ⟨blk_cell HC22.out.hg 10, blk_cell HT22.out 0, blk_cell HT22.out 1, blk_cell HT22.out 2, blk_cell HC22.out.hg 11, blk_cell HC22.out.hg 7⟩ (fun hHeld => ?_)
          clear hK K HC21 HT21
          refine norm_ (a' := ?_) ?_ ?_
          rotate_left
          · show Act.put _ _ _ = _
            simp only [Act.put, List.setIfInBounds_toArray, List.set_cons_zero, List.set_cons_succ, i64_w, i32_w]
            rfl
          refine one_ (i := 17) (N := some 115) (zqB 25 262143) rfl rfl (by kernel_rfl) (by decide) (fun K hK => ?_)
          refine value_ (w1 := ?_) (v := ?_) (by rfl) rfl ?_ ?_
          rotate_left 2
          · go_simp
            constructor
            · rfl
            · rfl
          have HC23 := hidK (HC22.out.alloc (.cells #[.int .i64 (wrap64 (load + stops[i].f2))] 3 (0, 0)))
          have HT23 := hidK (blk_alloc HT22.out (.cells #[.int .i64 (wrap64 (load + stops[i].f2))] 3 (0, 0)))
          have HBL := hidK (blk_new W22 (.cells #[.int .i64 (wrap64 (load + stops[i].f2))] 3 (0, 0)))
          have HNL := hidK (HC22.out.at_ne)
          refine hK.out _ _ ⟨blk_cell HC23.out.hg 10, blk_cell HT23.out 0, blk_cell HT23.out 1, blk_cell HT23.out 2, blk_cell HC23.out.hg 11, blk_cell HC23.out.hg 7⟩ (fun hHeld => ?_)
          clear hK K HC22 HT22
          obtain ⟨bL, hbL⟩ : ∃ b, b = W22.heap.size := ⟨_, rfl⟩
          rw [← hbL] at HBL HNL ⊢
          clear hbL
          generalize hD : World.alloc W22 _ = W23 at HC23 HT23 HBL hHeld ⊢
          clear hD
          refine norm_ (a' := ?_) ?_ ?_
          rotate_left
          · show Act.put _ _ _ = _
            simp only [Act.put, List.setIfInBounds_toArray, List.set_cons_zero, List.set_cons_succ, i64_w, i32_w]
            rfl
          refine one_ (i := 18) (N := some 116) (zqB 25 524287) rfl rfl (by kernel_rfl) (by decide) (fun K hK => ?_)
          refine appL_step (N := 116) rfl (by rfl) (.tmp 110) (.tmp 115) rfl bL (wrap64 (load + stops[i].f2)) rfl rfl HBL.out HC23.out hl2 ?_
          intro vL W24 hc_ hgr_
          have HC24 := hidK hc_
          have HT24 := hidK (blk_grown HT23.out hgr_ HTN.out.2.1)
          clear hc_ hgr_
          refine hK.out _ _ ⟨blk_cell HC24.out.hg 10, blk_cell HT24.out 0, blk_cell HT24.out 1, blk_cell HT24.out 2, blk_cell HC24.out.hg 11, blk_cell HC24.out.hg 7⟩ (fun hHeld => ?_)
          clear hK K HC23 HT23
          exact norm_ (by simp only [putAll, Act.put, List.setIfInBounds_toArray, List.set_cons_zero, List.set_cons_succ]) (hCont (.slice (some ⟨bT, 0, none⟩) 1 1, vT, .slice (some ⟨bL, 0, none⟩) 1 1, vL) _ HC24.out)
        · refine value_ (w1 := ?_) (v := ?_) (by rfl) rfl ?_ ?_
          rotate_left 2
          · go_simp
            constructor
            · rfl
            · rfl
          have HC22 := hidK (HC21.out.alloc (.cells #[.int .i64 (wrap64 (load + stops[i].f2))] 3 (0, 0)))
          have HT22 := hidK (blk_alloc HT21.out (.cells #[.int .i64 (wrap64 (load + stops[i].f2))] 3 (0, 0)))
          have HBL := hidK (blk_new W21 (.cells #[.int .i64 (wrap64 (load + stops[i].f2))] 3 (0, 0)))
          have HNL := hidK (HC21.out.at_ne)
          have HBT_ := hidK (blk_alloc HBT.out (.cells #[.int .i64 (wrap64 (load + stops[i].f2))] 3 (0, 0)))
          refine hK.out _ _ ⟨blk_cell HC22.out.hg 10, blk_cell HT22.out 0, blk_cell HT22.out 1, blk_cell HT22.out 2, blk_cell HC22.out.hg 11, blk_cell HC22.out.hg 7⟩ (fun hHeld => ?_)
          clear hK K HC21 HT21 HBT
          have HBT := HBT_
          clear HBT_
          obtain ⟨bL, hbL⟩ : ∃ b, b = W21.heap.size := ⟨_, rfl⟩
          rw [← hbL] at HBL HNL ⊢
          clear hbL
          generalize hD : World.alloc W21 _ = W22 at HC22 HT22 HBL HBT hHeld ⊢
          clear hD
          refine norm_ (a' := ?_) ?_ ?_
          rotate_left
          · show Act.put _ _ _ = _
            simp only [Act.put, List.setIfInBounds_toArray, List.set_cons_zero, List.set_cons_succ, i64_w, i32_w]
            rfl
          refine one_ (i := 8) (N := some 106) (zqB 25 262143) rfl rfl (by kernel_rfl) (by decide) (fun K hK => ?_)
          refine appT_step (N := 106) rfl (by rfl) (.tmp 103) (.tmp 105) rfl bT (⟨wrap64 (now + dd), bg, wrap64 (bg + stops[i].f5)⟩ : S100) rfl rfl HBT.out HC22.out hl1 ?_
          intro vT W23 hc_ hgr_
          have HC23 := hidK hc_
          have HT23 := hidK (blk_grown HT22.out hgr_ HTN.out.1)
          have HBL_ := hidK (blk_grown HBL.out hgr_ (Kd.R_ne HC22.out.rt HBL.out (by decide)))
          clear hc_ hgr_
          refine hK.out _ _ ⟨blk_cell HC23.out.hg 10, blk_cell HT23.out 0, blk_cell HT23.out 1, blk_cell HT23.out 2, blk_cell HC23.out.hg 11, blk_cell HC23.out.hg 7⟩ (fun hHeld => ?_)
          clear hK K HC22 HT22 HBL
          have HBL := HBL_
          clear HBL_
          refine norm_ (a' := ?_) ?_ ?_
          rotate_left
          · show Act.put _ _ _ = _
            simp only [Act.put, List.setIfInBounds_toArray, List.set_cons_zero, List.set_cons_succ, i64_w, i32_w]
            rfl
          refine one_ (i := 18) (N := some 116) (zqB 25 524287) rfl rfl (by kernel_rfl) (by decide) (fun K hK => ?_)
          refine appL_step (N := 116) rfl (by rfl) (.tmp 110) (.tmp 115) rfl bL (wrap64 (load + stops[i].f2)) rfl rfl HBL.out HC23.out hl2 ?_
          intro vL W24 hc_ hgr_
          have HC24 := hidK hc_
          have HT24 := hidK (blk_grown HT23.out hgr_ HTN.out.2.1)
          clear hc_ hgr_
          refine hK.out _ _ ⟨blk_cell HC24.out.hg 10, blk_cell HT24.out 0, blk_cell HT24.out 1, blk_cell HT24.out 2, blk_cell HC24.out.hg 11, blk_cell HC24.out.hg 7⟩ (fun hHeld => ?_)
          clear hK K HC23 HT23
          exact norm_ (by simp only [putAll, Act.put, List.setIfInBounds_toArray, List.set_cons_zero, List.set_cons_succ]) (hCont (.slice (some ⟨bT, 0, none⟩) 1 1, vT, .slice (some ⟨bL, 0, none⟩) 1 1, vL) _ HC24.out)
      · refine value_ (w1 := ?_) (v := ?_) (by rfl) rfl ?_ ?_
        rotate_left 2
        · go_simp
          constructor
          · rfl
          · rfl
        have HC21 := hidK (HC20.out.alloc (.cells #[.int .i64 (wrap64 (load + stops[i].f2))] 3 (0, 0)))
        have HT21 := hidK (blk_alloc HT20.out (.cells #[.int .i64 (wrap64 (load + stops[i].f2))] 3 (0, 0)))
        have HBL := hidK (blk_new W20 (.cells #[.int .i64 (wrap64 (load + stops[i].f2))] 3 (0, 0)))
        have HNL := hidK (HC20.out.at_ne)
        refine hK.out _ _ ⟨blk_cell HC21.out.hg 10, blk_cell HT21.out 0, blk_cell HT21.out 1, blk_cell HT21.out 2, blk_cell HC21.out.hg 11, blk_cell HC21.out.hg 7⟩ (fun hHeld => ?_)
        clear hK K HC20 HT20
        obtain ⟨bL, hbL⟩ : ∃ b, b = W20.heap.size := ⟨_, rfl⟩
        rw [← hbL] at HBL HNL ⊢
        clear hbL
        generalize hD : World.alloc W20 _ = W21 at HC21 HT21 HBL hHeld ⊢
        clear hD
        refine norm_ (a' := ?_) ?_ ?_
        rotate_left
        · show Act.put _ _ _ = _
          simp only [Act.put, List.setIfInBounds_toArray, List.set_cons_zero, List.set_cons_succ, i64_w, i32_w]
          rfl
        refine one_ (i := 7) (N := some 105) (zqB 25 261887) rfl rfl (by kernel_rfl) (by decide) (fun K hK => ?_)
        refine value_ (w1 := ?_) (v := ?_) (by rfl) rfl ?_ ?_
        rotate_left 2
        · go_simp
          constructor
          · rfl
          · rfl
        have HC22 := hidK (HC21.out.alloc (.cells #[.int .i64 (wrap64 (now + dd)), .int .i64 bg, .int .i64 (wrap64 (bg + stops[i].f5))] 100 (0, 0)))
        have HT22 := hidK (blk_alloc HT21.out (.cells #[.int .i64 (wrap64 (now + dd)), .int .i64 bg, .int .i64 (wrap64 (bg + stops[i].f5))] 100 (0, 0)))
        have HBT := hidK (blk_new W21 (.cells #[.int .i64 (wrap64 (now + dd)), .int .i64 bg, .int .i64 (wrap64 (bg + stops[i].f5))] 100 (0, 0)))
        have HNT := hidK (HC21.out.at_ne)
        have HBL_ := hidK (blk_alloc HBL.out (.cells #[.int .i64 (wrap64 (now + dd)), .int .i64 bg, .int .i64 (wrap64 (bg + stops[i].f5))] 100 (0, 0)))
        refine hK.out _ _ ⟨blk_cell HC22.out.hg 10, blk_cell HT22.out 0, blk_cell HT22.out 1, blk_cell HT22.out 2, blk_cell HC22.out.hg 11, blk_cell HC22.out.hg 7⟩ (fun hHeld => ?_)
        clear hK K HC21 HT21 HBL
        have HBL := HBL_
        clear HBL_
        obtain ⟨bT, hbT⟩ : ∃ b, b = W21.heap.size := ⟨_, rfl⟩
        rw [← hbT] at HBT HNT ⊢
        clear hbT
        generalize hD : World.alloc W21 _ = W22 at HC22 HT22 HBT HBL hHeld ⊢
        clear hD
        refine norm_ (a' := ?_) ?_ ?_
        rotate_left
        · show Act.put _ _ _ = _
          simp only [Act.put, List.setIfInBounds_toArray, List.set_cons_zero, List.set_cons_succ, i64_w, i32_w]
          rfl
        refine one_ (i := 8) (N := some 106) (zqB 25 262143) rfl rfl (by kernel_rfl) (by decide) (fun K hK => ?_)
        refine appT_step (N := 106) rfl (by rfl) (.tmp 103) (.tmp 105) rfl bT (⟨wrap64 (now + dd), bg, wrap64 (bg + stops[i].f5)⟩ : S100) rfl rfl HBT.out HC22.out hl1 ?_
        intro vT W23 hc_ hgr_
        have HC23 := hidK hc_
        have HT23 := hidK (blk_grown HT22.out hgr_ HTN.out.1)
        have HBL_ := hidK (blk_grown HBL.out hgr_ (Kd.R_ne HC22.out.rt HBL.out (by decide)))
        clear hc_ hgr_
        refine hK.out _ _ ⟨blk_cell HC23.out.hg 10, blk_cell HT23.out 0, blk_cell HT23.out 1, blk_cell HT23.out 2, blk_cell HC23.out.hg 11, blk_cell HC23.out.hg 7⟩ (fun hHeld => ?_)
        clear hK K HC22 HT22 HBL
        have HBL := HBL_
        clear HBL_
        refine norm_ (a' := ?_) ?_ ?_
        rotate_left
        · show Act.put _ _ _ = _
          simp only [Act.put, List.setIfInBounds_toArray, List.set_cons_zero, List.set_cons_succ, i64_w, i32_w]
          rfl
        refine one_ (i := 18) (N := some 116) (zqB 25 524287) rfl rfl (by kernel_rfl) (by decide) (fun K hK => ?_)
        refine appL_step (N := 116) rfl (by rfl) (.tmp 110) (.tmp 115) rfl bL (wrap64 (load + stops[i].f2)) rfl rfl HBL.out HC23.out hl2 ?_
        intro vL W24 hc_ hgr_
        have HC24 := hidK hc_
        have HT24 := hidK (blk_grown HT23.out hgr_ HTN.out.2.1)
        clear hc_ hgr_
        refine hK.out _ _ ⟨blk_cell HC24.out.hg 10, blk_cell HT24.out 0, blk_cell HT24.out 1, blk_cell HT24.out 2, blk_cell HC24.out.hg 11, blk_cell HC24.out.hg 7⟩ (fun hHeld => ?_)
        clear hK K HC23 HT23
        exact norm_ (by simp only [putAll, Act.put, List.setIfInBounds_toArray, List.set_cons_zero, List.set_cons_succ]) (hCont (.slice (some ⟨bT, 0, none⟩) 1 1, vT, .slice (some ⟨bL, 0, none⟩) 1 1, vL) _ HC24.out)
    case hcont =>
    rintro ⟨sT, vT, sL, vL⟩ W30 hJ
    obtain ⟨AT, cT, e1⟩ := Kd.R_slice hJ.rt
    obtain ⟨AL, cL, e2⟩ := Kd.R_slice hJ.rl
    obtain ⟨nT, hnT⟩ : ∃ n, n = (ts ++ [(⟨wrap64 (now + dd), bg, wrap64 (bg + stops[i].f5)⟩ : S100)]).length := ⟨_, rfl⟩
    obtain ⟨nL, hnL⟩ : ∃ n, n = (ls ++ [(wrap64 (load + stops[i].f2))]).length := ⟨_, rfl⟩
    simp only at e1 e2
    rw [← hnT] at e1
    rw [← hnL] at e2
    clear hnT hnL
    subst e1
    subst e2
    have HC30 := hidK hJ
    clear hJ
    refine norm_ (a' := ?_) ?_ ?_
    rotate_left
    · simp only [putAll, Act.put, List.setIfInBounds_toArray, List.set_cons_zero, List.set_cons_succ]
      rfl
    refine zqp 19 (some 117) (zqB 25 1048575) (by kernel_rfl) (h := ?_)
    refine zqp 20 (some 118) (zqB 25 2097151) (by kernel_rfl) (h := ?_)
    refine last_ (i := 21) (N := none) (zqB 25 4194303) rfl rfl (by kernel_rfl) (by decide) (fun K hK => ?_)
    refine want_ (by rfl) ?_
    have hc0 := blk_cell HC30.out.hg 10
    have hf0 := blk_frozen HC30.out.hg 10
    go_simp
    have HC31 := hidK (HC30.out.put (cs1 := #[.int .i64 p, .int .i64 cs, .int .i64 rm, .slice (some ad) stops.length sc, .int .i64 (i : Int), .int .i64 (wrap64 (bg + stops[i].f5)), .int .i64 (wrap64 (far + dd)), .int .i64 (wrap64 (load + stops[i].f2)), .int .u64 sw, .int .u64 on1, (Value.slice AT nT cT), vl]) 10 (Value.slice AT nT cT) rfl)
    refine hK.out _ _ ?_
    clear hK K hc0 hf0
    generalize hD : World.setCell _ _ (Value.slice AT nT cT) = W31 at HC31 ⊢
    clear hD HC30
    refine zqp 22 (some 119) (zqB 25 8388607) (by kernel_rfl) (h := ?_)
    refine zqp 23 (some 120) (zqB 25 16777215) (by kernel_rfl) (h := ?_)
    refine last_ (i := 24) (N := none) (zqB 25 33554431) rfl rfl (by kernel_rfl) (by decide) (fun K hK => ?_)
    refine want_ (by rfl) ?_
    have hc0 := blk_cell HC31.out.hg 11
    have hf0 := blk_frozen HC31.out.hg 11
    go_simp
    have HC32 := hidK (HC31.out.put (cs1 := #[.int .i64 p, .int .i64 cs, .int .i64 rm, .slice (some ad) stops.length sc, .int .i64 (i : Int), .int .i64 (wrap64 (bg + stops[i].f5)), .int .i64 (wrap64 (far + dd)), .int .i64 (wrap64 (load + stops[i].f2)), .int .u64 sw, .int .u64 on1, (Value.slice AT nT cT), (Value.slice AL nL cL)]) 11 (Value.slice AL nL cL) rfl)
    refine hK.out _ _ ?_
    clear hK K hc0 hf0
    generalize hD : World.setCell _ _ (Value.slice AL nL cL) = W32 at HC32 ⊢
    clear hD HC31
    refine done_ (by kernel_rfl) ?_
    go_wp2
    all_goals go_ret
    all_goals exact ⟨rfl, _, _, HC32.out⟩
  · have c0 := blk_cell HC9.out.hg 0
    have dip : decide ((i : Int) ≤ p) = false := decide_eq_false hip
    have HWR := hidK (show wrap64 ((i : Int) - p) = (i : Int) - p from by unfold wrap64; omega)
    go_wp2
    clear c0
    refine start_ (n := 16) (S := fun w' => w'.cell? ⟨g, 9, none⟩ = some (.int .u64 on) ∧ w'.cell? ⟨g, 0, none⟩ = some (.int .i64 p)) (ds := [15]) (zqB 16 0) (by kernel_rfl) rfl rfl (⟨blk_cell HC9.out.hg 9, blk_cell HC9.out.hg 0⟩) (fun hHeld => ?_)
    generalize hD : W9.drew = V at hHeld ⊢
    have HCa := hidK (show CarAt _ _ _ _ _ _ _ _ V by rw [← hD]; exact HC9.out.drew)
    have HTa := hidK (show V.heap[w2.heap.size]? = some (.cells #[.int .i64 (wrap64 (now + dd)), .int .i64 bg, .int .i64 (wrap64 (bg + stops[i].f5))] 100 (0, 0)) by rw [← hD]; exact blk_drew HT9.out)
    clear hD HC9 HT9
    refine zqp 0 (some 83) (zqB 16 1) (by kernel_rfl) (h := ?_)
    refine zqp 1 (some 84) (zqB 16 3) (by kernel_rfl) (h := ?_)
    refine zqp 2 (some 85) (zqB 16 7) (by kernel_rfl) (h := ?_)
    refine zqp 3 (some 86) (zqB 16 15) (by kernel_rfl) (h := ?_)
    refine zqt 4 (some 87) (zqB 16 31) (by kernel_rfl) hHeld (h := ?_)
    refine zqp 5 (some 88) (zqB 16 63) (by kernel_rfl) (h := ?_)
    refine zqp 6 (some 89) (zqB 16 127) (by kernel_rfl) (h := ?_)
    refine zqp 7 (some 90) (zqB 16 255) (by kernel_rfl) (h := ?_)
    refine zqp 8 (some 91) (zqB 16 511) (by kernel_rfl) (h := ?_)
    refine zqp 9 (some 92) (zqB 16 1023) (by kernel_rfl) (h := ?_)
    refine zqt 10 (some 93) (zqB 16 2047) (by kernel_rfl) hHeld (h := ?_)
    refine zqp 11 (some 94) (zqB 16 4095) (by kernel_rfl) (h := ?_)
    refine one_ (i := 12) (N := some 95) (zqB 16 8191) rfl rfl (by kernel_rfl) (by decide) (fun K hK => ?_)
    refine goes_ Tryd.func64 (by kernel_rfl) rfl #[.int .u64 on, .int .i64 (wrap64 ((i : Int) - p))] (by rfl) rfl rfl (by first | rfl | (simp only [List.map_toArray, List.map_cons, List.map_nil]; rfl)) ?_
    refine (set_Without.calls on (wrap64 ((i : Int) - p)) on1 _ (by rw [HWR.out]; exact HO.out.2 hip)).mono ?_
    rintro e w1 ⟨rfl, ⟨nw, rfl⟩⟩
    refine ⟨_, rfl, ?_⟩
    have HCb := hidK (HCa.out.drewN nw)
    have HTb := hidK (blk_drewN HTa.out nw)
    refine hK.out _ _ hHeld (fun hHeld => ?_)
    clear hK K HCa HTa
    refine norm_ (a' := ?_) ?_ ?_
    rotate_left
    · show Act.put _ _ _ = _
      simp only [Act.put, List.setIfInBounds_toArray, List.set_cons_zero, List.set_cons_succ, i64_w, i32_w]
      rfl
    refine zqp 13 (some 96) (zqB 16 16383) (by kernel_rfl) (h := ?_)
    refine zqp 14 (some 97) (zqB 16 32767) (by kernel_rfl) (h := ?_)
    refine last_ (i := 15) (N := none) (zqB 16 65535) rfl rfl (by kernel_rfl) (by decide) (fun K hK => ?_)
    refine want_ (by rfl) ?_
    have hc0 := blk_cell HCb.out.hg 9
    have hf0 := blk_frozen HCb.out.hg 9
    go_simp
    have HC11 := hidK (HCb.out.put (cs1 := #[.int .i64 p, .int .i64 cs, .int .i64 rm, .slice (some ad) stops.length sc, .int .i64 (i : Int), .int .i64 (wrap64 (bg + stops[i].f5)), .int .i64 (wrap64 (far + dd)), .int .i64 (wrap64 (load + stops[i].f2)), .int .u64 sw, .int .u64 on1, vt, vl]) 9 (Value.int .u64 on1) rfl)
    have HT11 := hidK (blk_far HTb.out (p := ⟨g, 9, none⟩) HTN.out.2.2.1 (Value.int .u64 on1))
    refine hK.out _ _ ?_
    clear hK K hc0 hf0
    generalize hD : World.setCell _ _ (Value.int .u64 on1) = W11 at HC11 HT11 ⊢
    clear hD HCb HTb
    refine done_ (by kernel_rfl) ?_
    go_wp2
    refine start_ (n := 25) (S := fun w' => w'.cell? ⟨g, 10, none⟩ = some vt ∧ w'.cell? ⟨w2.heap.size, 0, none⟩ = some (.int .i64 (wrap64 (now + dd))) ∧ w'.cell? ⟨w2.heap.size, 1, none⟩ = some (.int .i64 bg) ∧ w'.cell? ⟨w2.heap.size, 2, none⟩ = some (.int .i64 (wrap64 (bg + stops[i].f5))) ∧ w'.cell? ⟨g, 11, none⟩ = some vl ∧ w'.cell? ⟨g, 7, none⟩ = some (.int .i64 (wrap64 (load + stops[i].f2)))) (ds := [21, 24]) (zqB 25 0) (by kernel_rfl) rfl rfl ((by exact ⟨blk_cell HC11.out.hg 10, blk_cell HT11.out 0, blk_cell HT11.out 1, blk_cell HT11.out 2, blk_cell HC11.out.hg 11, blk_cell HC11.out.hg 7⟩)) (fun hHeld => ?_)
    generalize hD : W11.drew = W20 at hHeld ⊢
    have HC20 := hidK (show CarAt _ _ _ _ _ _ _ _ W20 by rw [← hD]; exact HC11.out.drew)
    have HT20 := hidK (show W20.heap[w2.heap.size]? = some (.cells #[.int .i64 (wrap64 (now + dd)), .int .i64 bg, .int .i64 (wrap64 (bg + stops[i].f5))] 100 (0, 0)) by rw [← hD]; exact blk_drew HT11.out)
    clear hD HC11 HT11
    refine zqp 0 (some 98) (zqB 25 1) (by kernel_rfl) (h := ?_)
    refine zqp 1 (some 99) (zqB 25 3) (by kernel_rfl) (h := ?_)
    refine zqp 2 (some 100) (zqB 25 7) (by kernel_rfl) (h := ?_)
    refine zqp 3 (some 101) (zqB 25 15) (by kernel_rfl) (h := ?_)
    refine zqp 4 (some 102) (zqB 25 31) (by kernel_rfl) (h := ?_)
    refine zqt 5 (some 103) (zqB 25 63) (by kernel_rfl) hHeld (h := ?_)
    refine zqt 6 (some 104) (zqB 25 127) (by kernel_rfl) hHeld (h := ?_)
    refine zqp 9 (some 107) (zqB 25 639) (by kernel_rfl) (h := ?_)
    refine zqp 10 (some 108) (zqB 25 1663) (by kernel_rfl) (h := ?_)
    refine zqp 11 (some 109) (zqB 25 3711) (by kernel_rfl) (h := ?_)
    refine zqt 12 (some 110) (zqB 25 7807) (by kernel_rfl) hHeld (h := ?_)
    refine zqp 13 (some 111) (zqB 25 15999) (by kernel_rfl) (h := ?_)
    refine zqp 14 (some 112) (zqB 25 32383) (by kernel_rfl) (h := ?_)
    refine zqp 15 (some 113) (zqB 25 65151) (by kernel_rfl) (h := ?_)
    refine zqt 16 (some 114) (zqB 25 130687) (by kernel_rfl) hHeld (h := ?_)
    refine join_ (σ := Value × Value × Value × Value) 6 (zqB 25 524287) (fun s_ => [(105, s_.1), (106, s_.2.1), (115, s_.2.2.1), (116, s_.2.2.2)]) (fun s_ w' => CarAt w0 base g #[.int .i64 p, .int .i64 cs, .int .i64 rm, .slice (some ad) stops.length sc, .int .i64 (i : Int), .int .i64 (wrap64 (bg + stops[i].f5)), .int .i64 (wrap64 (far + dd)), .int .i64 (wrap64 (load + stops[i].f2)), .int .u64 sw, .int .u64 on1, vt, vl] s_.2.1 s_.2.2.2 (ts ++ [(⟨wrap64 (now + dd), bg, wrap64 (bg + stops[i].f5)⟩ : S100)]) (ls ++ [(wrap64 (load + stops[i].f2))]) w') ?hcont ?hord
    case hord =>
      intro hCont
      refine two_ (i := 7) (j := 17) (Ni := some 105) (Nj := some 115) (zqB 25 130815) (zqB 25 261759) rfl rfl rfl rfl (by kernel_rfl) (by decide) (by decide) (fun K hK => ?_) (fun K hK => ?_)
      · refine value_ (w1 := ?_) (v := ?_) (by rfl) rfl ?_ ?_
        rotate_left 2
        · go_simp
          constructor
          · rfl
          · rfl
        have HC21 := hidK (HC20.out.alloc (.cells #[.int .i64 (wrap64 (now + dd)), .int .i64 bg, .int .i64 (wrap64 (bg + stops[i].f5))] 100 (0, 0)))
        have HT21 := hidK (blk_alloc HT20.out (.cells #[.int .i64 (wrap64 (now + dd)), .int .i64 bg, .int .i64 (wrap64 (bg + stops[i].f5))] 100 (0, 0)))
        have HBT := hidK (blk_new W20 (.cells #[.int .i64 (wrap64 (now + dd)), .int .i64 bg, .int .i64 (wrap64 (bg + stops[i].f5))] 100 (0, 0)))
        have HNT := hidK (HC20.out.at_ne)
        refine hK.out _ _ ⟨blk_cell HC21.out.hg 10, blk_cell HT21.out 0, blk_cell HT21.out 1, blk_cell HT21.out 2, blk_cell HC21.out.hg 11, blk_cell HC21.out.hg 7⟩ (fun hHeld => ?_)
        clear hK K HC20 HT20
        obtain ⟨bT, hbT⟩ : ∃ b, b = W20.heap.size := ⟨_, rfl⟩
        rw [← hbT] at HBT HNT ⊢
        clear hbT
        generalize hD : World.alloc W20 _ = W21 at HC21 HT21 HBT hHeld ⊢
        clear hD
        refine norm_ (a' := ?_) ?_ ?_
        rotate_left
        · show Act.put _ _ _ = _
          simp only [Act.put, List.setIfInBounds_toArray, List.set_cons_zero, List.set_cons_succ, i64_w, i32_w]
          rfl
        refine two_ (i := 8) (j := 17) (Ni := some 106) (Nj := some 115) (zqB 25 131071) (zqB 25 261887) rfl rfl rfl rfl (by kernel_rfl) (by decide) (by decide) (fun K hK => ?_) (fun K hK => ?_)
        · refine appT_step (N := 106) rfl (by rfl) (.tmp 103) (.tmp 105) rfl bT (⟨wrap64 (now + dd), bg, wrap64 (bg + stops[i].f5)⟩ : S100) rfl rfl HBT.out HC21.out hl1 ?_
          intro vT W22 hc_ hgr_
          have HC22 := hidK hc_
          have HT22 := hidK (blk_grown HT21.out hgr_ HTN.out.1)
          clear hc_ hgr_
          refine hK.out _ _ ⟨blk_cell HC22.out.hg 10, blk_cell HT22.out 0, blk_cell HT22.out 1, blk_cell HT22.out 2, blk_cell HC22.out.hg 11, blk_cell HC22.out.hg 7⟩ (fun hHeld => ?_)
          clear hK K HC21 HT21
          refine norm_ (a' := ?_) ?_ ?_
          rotate_left
          · show Act.put _ _ _ = _
            simp only [Act.put, List.setIfInBounds_toArray, List.set_cons_zero, List.set_cons_succ, i64_w, i32_w]
            rfl
          refine one_ (i := 17) (N := some 115) (zqB 25 262143) rfl rfl (by kernel_rfl) (by decide) (fun K hK => ?_)
          refine value_ (w1 := ?_) (v := ?_) (by rfl) rfl ?_ ?_
          rotate_left 2
          · go_simp
            constructor
            · rfl
            · rfl
          have HC23 := hidK (HC22.out.alloc (.cells #[.int .i64 (wrap64 (load + stops[i].f2))] 3 (0, 0)))
          have HT23 := hidK (blk_alloc HT22.out (.cells #[.int .i64 (wrap64 (load + stops[i].f2))] 3 (0, 0)))
          have HBL := hidK (blk_new W22 (.cells #[.int .i64 (wrap64 (load + stops[i].f2))] 3 (0, 0)))
          have HNL := hidK (HC22.out.at_ne)
          refine hK.out _ _ ⟨blk_cell HC23.out.hg 10, blk_cell HT23.out 0, blk_cell HT23.out 1, blk_cell HT23.out 2, blk_cell HC23.out.hg 11, blk_cell HC23.out.hg 7⟩ (fun hHeld => ?_)
          clear hK K HC22 HT22
          obtain ⟨bL, hbL⟩ : ∃ b, b = W22.heap.size := ⟨_, rfl⟩
          rw [← hbL] at HBL HNL ⊢
          clear hbL
          generalize hD : World.alloc W22 _ = W23 at HC23 HT23 HBL hHeld ⊢
          clear hD
          refine norm_ (a' := ?_) ?_ ?_
          rotate_left
          · show Act.put _ _ _ = _
            simp only [Act.put, List.setIfInBounds_toArray, List.set_cons_zero, List.set_cons_succ, i64_w, i32_w]
            rfl
          refine one_ (i := 18) (N := some 116) (zqB 25 524287) rfl rfl (by kernel_rfl) (by decide) (fun K hK => ?_)
          refine appL_step (N := 116) rfl (by rfl) (.tmp 110) (.tmp 115) rfl bL (wrap64 (load + stops[i].f2)) rfl rfl HBL.out HC23.out hl2 ?_
          intro vL W24 hc_ hgr_
          have HC24 := hidK hc_
          have HT24 := hidK (blk_grown HT23.out hgr_ HTN.out.2.1)
          clear hc_ hgr_
          refine hK.out _ _ ⟨blk_cell HC24.out.hg 10, blk_cell HT24.out 0, blk_cell HT24.out 1, blk_cell HT24.out 2, blk_cell HC24.out.hg 11, blk_cell HC24.out.hg 7⟩ (fun hHeld => ?_)
          clear hK K HC23 HT23
          exact norm_ (by simp only [putAll, Act.put, List.setIfInBounds_toArray, List.set_cons_zero, List.set_cons_succ]) (hCont (.slice (some ⟨bT, 0, none⟩) 1 1, vT, .slice (some ⟨bL, 0, none⟩) 1 1, vL) _ HC24.out)
        · refine value_ (w1 := ?_) (v := ?_) (by rfl) rfl ?_ ?_
          rotate_left 2
          · go_simp
            constructor
            · rfl
            · rfl
          have HC22 := hidK (HC21.out.alloc (.cells #[.int .i64 (wrap64 (load + stops[i].f2))] 3 (0, 0)))
          have HT22 := hidK (blk_alloc HT21.out (.cells #[.int .i64 (wrap64 (load + stops[i].f2))] 3 (0, 0)))
          have HBL := hidK (blk_new W21 (.cells #[.int .i64 (wrap64 (load + stops[i].f2))] 3 (0, 0)))
          have HNL := hidK (HC21.out.at_ne)
          have HBT_ := hidK (blk_alloc HBT.out (.cells #[.int .i64 (wrap64 (load + stops[i].f2))] 3 (0, 0)))
          refine hK.out _ _ ⟨blk_cell HC22.out.hg 10, blk_cell HT22.out 0, blk_cell HT22.out 1, blk_cell HT22.out 2, blk_cell HC22.out.hg 11, blk_cell HC22.out.hg 7⟩ (fun hHeld => ?_)
          clear hK K HC21 HT21 HBT
          have HBT := HBT_
          clear HBT_
          obtain ⟨bL, hbL⟩ : ∃ b, b = W21.heap.size := ⟨_, rfl⟩
          rw [← hbL] at HBL HNL ⊢
          clear hbL
          generalize hD : World.alloc W21 _ = W22 at HC22 HT22 HBL HBT hHeld ⊢
          clear hD
          refine norm_ (a' := ?_) ?_ ?_
          rotate_left
          · show Act.put _ _ _ = _
            simp only [Act.put, List.setIfInBounds_toArray, List.set_cons_zero, List.set_cons_succ, i64_w, i32_w]
            rfl
          refine one_ (i := 8) (N := some 106) (zqB 25 262143) rfl rfl (by kernel_rfl) (by decide) (fun K hK => ?_)
          refine appT_step (N := 106) rfl (by rfl) (.tmp 103) (.tmp 105) rfl bT (⟨wrap64 (now + dd), bg, wrap64 (bg + stops[i].f5)⟩ : S100) rfl rfl HBT.out HC22.out hl1 ?_
          intro vT W23 hc_ hgr_
          have HC23 := hidK hc_
          have HT23 := hidK (blk_grown HT22.out hgr_ HTN.out.1)
          have HBL_ := hidK (blk_grown HBL.out hgr_ (Kd.R_ne HC22.out.rt HBL.out (by decide)))
          clear hc_ hgr_
          refine hK.out _ _ ⟨blk_cell HC23.out.hg 10, blk_cell HT23.out 0, blk_cell HT23.out 1, blk_cell HT23.out 2, blk_cell HC23.out.hg 11, blk_cell HC23.out.hg 7⟩ (fun hHeld => ?_)
          clear hK K HC22 HT22 HBL
          have HBL := HBL_
          clear HBL_
          refine norm_ (a' := ?_) ?_ ?_
          rotate_left
          · show Act.put _ _ _ = _
            simp only [Act.put, List.setIfInBounds_toArray, List.set_cons_zero, List.set_cons_succ, i64_w, i32_w]
            rfl
          refine one_ (i := 18) (N := some 116) (zqB 25 524287) rfl rfl (by kernel_rfl) (by decide) (fun K hK => ?_)
          refine appL_step (N := 116) rfl (by rfl) (.tmp 110) (.tmp 115) rfl bL (wrap64 (load + stops[i].f2)) rfl rfl HBL.out HC23.out hl2 ?_
          intro vL W24 hc_ hgr_
          have HC24 := hidK hc_
          have HT24 := hidK (blk_grown HT23.out hgr_ HTN.out.2.1)
          clear hc_ hgr_
          refine hK.out _ _ ⟨blk_cell HC24.out.hg 10, blk_cell HT24.out 0, blk_cell HT24.out 1, blk_cell HT24.out 2, blk_cell HC24.out.hg 11, blk_cell HC24.out.hg 7⟩ (fun hHeld => ?_)
          clear hK K HC23 HT23
          exact norm_ (by simp only [putAll, Act.put, List.setIfInBounds_toArray, List.set_cons_zero, List.set_cons_succ]) (hCont (.slice (some ⟨bT, 0, none⟩) 1 1, vT, .slice (some ⟨bL, 0, none⟩) 1 1, vL) _ HC24.out)
      · refine value_ (w1 := ?_) (v := ?_) (by rfl) rfl ?_ ?_
        rotate_left 2
        · go_simp
          constructor
          · rfl
          · rfl
        have HC21 := hidK (HC20.out.alloc (.cells #[.int .i64 (wrap64 (load + stops[i].f2))] 3 (0, 0)))
        have HT21 := hidK (blk_alloc HT20.out (.cells #[.int .i64 (wrap64 (load + stops[i].f2))] 3 (0, 0)))
        have HBL := hidK (blk_new W20 (.cells #[.int .i64 (wrap64 (load + stops[i].f2))] 3 (0, 0)))
        have HNL := hidK (HC20.out.at_ne)
        refine hK.out _ _ ⟨blk_cell HC21.out.hg 10, blk_cell HT21.out 0, blk_cell HT21.out 1, blk_cell HT21.out 2, blk_cell HC21.out.hg 11, blk_cell HC21.out.hg 7⟩ (fun hHeld => ?_)
        clear hK K HC20 HT20
        obtain ⟨bL, hbL⟩ : ∃ b, b = W20.heap.size := ⟨_, rfl⟩
        rw [← hbL] at HBL HNL ⊢
        clear hbL
        generalize hD : World.alloc W20 _ = W21 at HC21 HT21 HBL hHeld ⊢
        clear hD
        refine norm_ (a' := ?_) ?_ ?_
        rotate_left
        · show Act.put _ _ _ = _
          simp only [Act.put, List.setIfInBounds_toArray, List.set_cons_zero, List.set_cons_succ, i64_w, i32_w]
          rfl
        refine one_ (i := 7) (N := some 105) (zqB 25 261887) rfl rfl (by kernel_rfl) (by decide) (fun K hK => ?_)
        refine value_ (w1 := ?_) (v := ?_) (by rfl) rfl ?_ ?_
        rotate_left 2
        · go_simp
          constructor
          · rfl
          · rfl
        have HC22 := hidK (HC21.out.alloc (.cells #[.int .i64 (wrap64 (now + dd)), .int .i64 bg, .int .i64 (wrap64 (bg + stops[i].f5))] 100 (0, 0)))
        have HT22 := hidK (blk_alloc HT21.out (.cells #[.int .i64 (wrap64 (now + dd)), .int .i64 bg, .int .i64 (wrap64 (bg + stops[i].f5))] 100 (0, 0)))
        have HBT := hidK (blk_new W21 (.cells #[.int .i64 (wrap64 (now + dd)), .int .i64 bg, .int .i64 (wrap64 (bg + stops[i].f5))] 100 (0, 0)))
        have HNT := hidK (HC21.out.at_ne)
        have HBL_ := hidK (blk_alloc HBL.out (.cells #[.int .i64 (wrap64 (now + dd)), .int .i64 bg, .int .i64 (wrap64 (bg + stops[i].f5))] 100 (0, 0)))
        refine hK.out _ _ ⟨blk_cell HC22.out.hg 10, blk_cell HT22.out 0, blk_cell HT22.out 1, blk_cell HT22.out 2, blk_cell HC22.out.hg 11, blk_cell HC22.out.hg 7⟩ (fun hHeld => ?_)
        clear hK K HC21 HT21 HBL
        have HBL := HBL_
        clear HBL_
        obtain ⟨bT, hbT⟩ : ∃ b, b = W21.heap.size := ⟨_, rfl⟩
        rw [← hbT] at HBT HNT ⊢
        clear hbT
        generalize hD : World.alloc W21 _ = W22 at HC22 HT22 HBT HBL hHeld ⊢
        clear hD
        refine norm_ (a' := ?_) ?_ ?_
        rotate_left
        · show Act.put _ _ _ = _
          simp only [Act.put, List.setIfInBounds_toArray, List.set_cons_zero, List.set_cons_succ, i64_w, i32_w]
          rfl
        refine one_ (i := 8) (N := some 106) (zqB 25 262143) rfl rfl (by kernel_rfl) (by decide) (fun K hK => ?_)
        refine appT_step (N := 106) rfl (by rfl) (.tmp 103) (.tmp 105) rfl bT (⟨wrap64 (now + dd), bg, wrap64 (bg + stops[i].f5)⟩ : S100) rfl rfl HBT.out HC22.out hl1 ?_
        intro vT W23 hc_ hgr_
        have HC23 := hidK hc_
        have HT23 := hidK (blk_grown HT22.out hgr_ HTN.out.1)
        have HBL_ := hidK (blk_grown HBL.out hgr_ (Kd.R_ne HC22.out.rt HBL.out (by decide)))
        clear hc_ hgr_
        refine hK.out _ _ ⟨blk_cell HC23.out.hg 10, blk_cell HT23.out 0, blk_cell HT23.out 1, blk_cell HT23.out 2, blk_cell HC23.out.hg 11, blk_cell HC23.out.hg 7⟩ (fun hHeld => ?_)
        clear hK K HC22 HT22 HBL
        have HBL := HBL_
        clear HBL_
        refine norm_ (a' := ?_) ?_ ?_
        rotate_left
        · show Act.put _ _ _ = _
          simp only [Act.put, List.setIfInBounds_toArray, List.set_cons_zero, List.set_cons_succ, i64_w, i32_w]
          rfl
        refine one_ (i := 18) (N := some 116) (zqB 25 524287) rfl rfl (by kernel_rfl) (by decide) (fun K hK => ?_)
        refine appL_step (N := 116) rfl (by rfl) (.tmp 110) (.tmp 115) rfl bL (wrap64 (load + stops[i].f2)) rfl rfl HBL.out HC23.out hl2 ?_
        intro vL W24 hc_ hgr_
        have HC24 := hidK hc_
        have HT24 := hidK (blk_grown HT23.out hgr_ HTN.out.2.1)
        clear hc_ hgr_
        refine hK.out _ _ ⟨blk_cell HC24.out.hg 10, blk_cell HT24.out 0, blk_cell HT24.out 1, blk_cell HT24.out 2, blk_cell HC24.out.hg 11, blk_cell HC24.out.hg 7⟩ (fun hHeld => ?_)
        clear hK K HC23 HT23
        exact norm_ (by simp only [putAll, Act.put, List.setIfInBounds_toArray, List.set_cons_zero, List.set_cons_succ]) (hCont (.slice (some ⟨bT, 0, none⟩) 1 1, vT, .slice (some ⟨bL, 0, none⟩) 1 1, vL) _ HC24.out)
    case hcont =>
    rintro ⟨sT, vT, sL, vL⟩ W30 hJ
    obtain ⟨AT, cT, e1⟩ := Kd.R_slice hJ.rt
    obtain ⟨AL, cL, e2⟩ := Kd.R_slice hJ.rl
    obtain ⟨nT, hnT⟩ : ∃ n, n = (ts ++ [(⟨wrap64 (now + dd), bg, wrap64 (bg + stops[i].f5)⟩ : S100)]).length := ⟨_, rfl⟩
    obtain ⟨nL, hnL⟩ : ∃ n, n = (ls ++ [(wrap64 (load + stops[i].f2))]).length := ⟨_, rfl⟩
    simp only at e1 e2
    rw [← hnT] at e1
    rw [← hnL] at e2
    clear hnT hnL
    subst e1
    subst e2
    have HC30 := hidK hJ
    clear hJ
    refine norm_ (a' := ?_) ?_ ?_
    rotate_left
    · simp only [putAll, Act.put, List.setIfInBounds_toArray, List.set_cons_zero, List.set_cons_succ]
      rfl
    refine zqp 19 (some 117) (zqB 25 1048575) (by kernel_rfl) (h := ?_)
    refine zqp 20 (some 118) (zqB 25 2097151) (by kernel_rfl) (h := ?_)
    refine last_ (i := 21) (N := none) (zqB 25 4194303) rfl rfl (by kernel_rfl) (by decide) (fun K hK => ?_)
    refine want_ (by rfl) ?_
    have hc0 := blk_cell HC30.out.hg 10
    have hf0 := blk_frozen HC30.out.hg 10
    go_simp
    have HC31 := hidK (HC30.out.put (cs1 := #[.int .i64 p, .int .i64 cs, .int .i64 rm, .slice (some ad) stops.length sc, .int .i64 (i : Int), .int .i64 (wrap64 (bg + stops[i].f5)), .int .i64 (wrap64 (far + dd)), .int .i64 (wrap64 (load + stops[i].f2)), .int .u64 sw, .int .u64 on1, (Value.slice AT nT cT), vl]) 10 (Value.slice AT nT cT) rfl)
    refine hK.out _ _ ?_
    clear hK K hc0 hf0
    generalize hD : World.setCell _ _ (Value.slice AT nT cT) = W31 at HC31 ⊢
    clear hD HC30
    refine zqp 22 (some 119) (zqB 25 8388607) (by kernel_rfl) (h := ?_)
    refine zqp 23 (some 120) (zqB 25 16777215) (by kernel_rfl) (h := ?_)
    refine last_ (i := 24) (N := none) (zqB 25 33554431) rfl rfl (by kernel_rfl) (by decide) (fun K hK => ?_)
    refine want_ (by rfl) ?_
    have hc0 := blk_cell HC31.out.hg 11
    have hf0 := blk_frozen HC31.out.hg 11
    go_simp
    have HC32 := hidK (HC31.out.put (cs1 := #[.int .i64 p, .int .i64 cs, .int .i64 rm, .slice (some ad) stops.length sc, .int .i64 (i : Int), .int .i64 (wrap64 (bg + stops[i].f5)), .int .i64 (wrap64 (far + dd)), .int .i64 (wrap64 (load + stops[i].f2)), .int .u64 sw, .int .u64 on1, (Value.slice AT nT cT), (Value.slice AL nL cL)]) 11 (Value.slice AL nL cL) rfl)
    refine hK.out _ _ ?_
    clear hK K hc0 hf0
    generalize hD : World.setCell _ _ (Value.slice AL nL cL) = W32 at HC32 ⊢
    clear hD HC31
    refine done_ (by kernel_rfl) ?_
    go_wp2
    all_goals go_ret
    all_goals exact ⟨rfl, _, _, HC32.out⟩

end Go.Proofs.YtdkhajgfifaibaaDoor.PA
