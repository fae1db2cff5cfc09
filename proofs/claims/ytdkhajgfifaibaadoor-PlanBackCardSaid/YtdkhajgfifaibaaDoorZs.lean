/- A struct's store into a block that is known whole, as an event of a region: the world behind it is a letter. -/
import Derived.Test.YtdkhajgfifaibaaDoorZq
namespace Go.Proofs.YtdkhajgfifaibaaDoor
open Go.RowKit Go.Proofs.YtdkhajgfifaibaaDoorW.PrintWords Go.Proofs.YtdkhajgfifaibaaDoorW.PrintLast Go.Proofs.YtdkhajgfifaibaaDoorW.PrintMore
theorem zqs_run {P : Program} {w : World} {g : Nat} {cs : Array Value} {ty : TypeId} (t : TypeId) (u : Value) (cs' : Array Value)
    (hb : w.heap[g]? = some (.cells cs ty (0, 0))) (hu : u.cells = cs') (ht : (P.info? t).map (·.size) = some cs'.size) (hs : cs'.size = cs.size) (h1 : ∀ q ∈ cs'.toList, q.oneCell' = true) :
    ∃ w1, (Instr.storeAt t (.pointer (some ⟨g, 0, none⟩)) u).run P w = .ok () w1 ∧ w1.heap[g]? = some (.cells cs' ty (0, 0)) ∧ (∀ B w0, Below B w0 w → B ≤ g → Below B w0 w1) ∧ (∀ k, k ≠ g → w1.heap[k]? = w.heap[k]?) := by
  have hr := run_store_run (P := P) t u cs'.toList hb (by rw [hu]) (by rw [ht, Array.length_toList]) (by rw [Array.length_toList, Nat.zero_add]; exact Nat.le_of_eq hs) h1
  obtain ⟨cur', h3, h4, h5⟩ := setCells_row cs'.toList 0 w cs hb (by rw [Array.length_toList, Nat.zero_add]; exact Nat.le_of_eq hs)
  obtain ⟨k1, k2, k3, k4⟩ := setCells_same g cs'.toList 0 w
  have he : cur' = cs' := by
    apply Array.toList_inj.1
    rw [h5, Array.length_toList, Nat.zero_add, hs, ← Array.length_toList, List.drop_length]
    simp
  rw [he] at h3
  refine ⟨_, hr, h3, fun B w0 hB hg => ⟨k1.trans hB.os, k2.trans hB.tape, k3.trans hB.output, by rw [k4]; exact hB.size, fun i hi => ?_⟩, fun k hk => setCells_far _ _ _ hk⟩
  rw [setCells_far _ _ _ (show i ≠ g by omega)]
  exact hB.block i hi
section
variable {P : Program} {ops : Array Oper} {Q : Exit → Act → World → Prop}
theorem zqs {oi : Oper} {a : Act} {w : World} {K : Act → World → Prop} {g : Nat} {cs : Array Value} {ty : TypeId} (t : TypeId) (p x : Operand) (cs' : Array Value)
    (hb : w.heap[g]? = some (.cells cs ty (0, 0))) (ho : oi.op = .store t p x) (hN : oi.dst = none) (hw : Region.wanted oi (yielded ops a.tmps) = true)
    (hp : a.eval p = .pointer (some ⟨g, 0, none⟩)) (hu : (a.eval x).cells = cs') (ht : (P.info? t).map (·.size) = some cs'.size) (hs : cs'.size = cs.size) (h1 : cs'.toList.all Value.oneCell' = true)
    (h : ∀ w1, w1.heap[g]? = some (.cells cs' ty (0, 0)) → (∀ B w0, Below B w0 w → B ≤ g → Below B w0 w1) → (∀ k, k ≠ g → w1.heap[k]? = w.heap[k]?) → K a w1) :
    if Region.wanted oi (yielded ops a.tmps) = true then Oper.wp P oi a w K Q else K (a.put none undef) w := by
  obtain ⟨w1, hr, e1, e2, e3⟩ := zqs_run (P := P) t (a.eval x) cs' hb hu ht hs (List.all_eq_true.1 h1)
  refine skip_ hw hN ?_ (h w1 e1 e2 e3)
  unfold execOp
  simp only [ho, hp, hr, Result.andThen_ok, Sem.run_bind, Sem.run_pure]
end
section
variable {P : Program} {ops : Array Oper} {Q : Exit → Act → World → Prop} {rest : List Oper} {o : Oper} {a : Act} {w : World}
theorem zqg1 (t : TypeId) (_ho : ∃ p x, o.op = .store t p x) (h : wpList P ops Q (o :: rest) a w) : wpList P ops Q (o :: rest) a w := h
/-- The same as a step of the walk: the block's cells behind the store are cs' (n cells from j on are written). -/
theorem zqv {g : Nat} {cs : Array Value} {ty : TypeId} (t : TypeId) (p x : Operand) (j n : Nat) (cs' : Array Value)
    (hb : w.heap[g]? = some (.cells cs ty (0, 0))) (ho : o.op = .store t p x) (hN : o.dst = none) (hgd : o.guard = none)
    (hp : a.eval p = .pointer (some ⟨g, j, none⟩)) {u : Value} (hx : a.eval x = u) (hn : u.cells.toList.length = n) (hu : cs'.toList = cs.toList.take j ++ u.cells.toList ++ cs.toList.drop (j + n)) (ht : (P.info? t).map (·.size) = some n) (hs : j + n ≤ cs.size) (h1 : u.cells.toList.all Value.oneCell' = true)
    (h : ∀ w1, w1.heap[g]? = some (.cells cs' ty (0, 0)) → (∀ B w0, Below B w0 w → B ≤ g → Below B w0 w1) → (∀ k, k ≠ g → w1.heap[k]? = w.heap[k]?) → wpList P ops Q rest a w1) :
    wpList P ops Q (o :: rest) a w := by
  subst hx
  have hr := run_store_run (P := P) t (a.eval x) (a.eval x).cells.toList hb rfl (by rw [ht, hn]) (by rw [hn]; exact hs) (List.all_eq_true.1 h1)
  obtain ⟨cur', h3, h4, h5⟩ := setCells_row (a.eval x).cells.toList j w cs hb (by rw [hn]; exact hs)
  obtain ⟨k1, k2, k3, k4⟩ := setCells_same g (a.eval x).cells.toList j w
  have he : cur' = cs' := by
    apply Array.toList_inj.1
    rw [h5, hu, hn]
  rw [he] at h3
  refine wpList_plain hgd fun K hK => ?_
  unfold Oper.wp execOp
  simp only [ho, hp, hr, Result.andThen_ok, Sem.run_bind, Sem.run_pure]
  have hk := hK a (w.setCells g j (a.eval x).cells.toList) (h _ h3 (fun B w0 hB hg => ⟨k1.trans hB.os, k2.trans hB.tape, k3.trans hB.output, by rw [k4]; exact hB.size, fun i hi => by
      rw [setCells_far _ _ _ (show i ≠ g by omega)]
      exact hB.block i hi⟩) (fun k hk => setCells_far _ _ _ hk))
  show K (a.put o.dst undef) _
  rw [hN]
  exact hk
end
theorem zqC {w : World} {g : Nat} {cs cs' : Array Value} {t : TypeId} (h : w.heap[g]? = some (.cells cs t (0, 0))) (e : cs = cs') : w.heap[g]? = some (.cells cs' t (0, 0)) := by
  subst e
  exact h
end Go.Proofs.YtdkhajgfifaibaaDoor
