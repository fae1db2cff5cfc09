/- Every value that reads as data of a type is told by a list, a number, a text or a struct: for each kind of the print. No condition. -/
import Derived.Test.YtdkhajgfifaibaaDoorWWords
import Derived.ProofKit
import Derived.Lib.SmallJoins
namespace Go.Proofs.YtdkhajgfifaibaaDoor.Op
open Go.ChangeShapes Go.WideShapes Go.ChangeAt Go.RowKit Go.Joins Go.Proofs.YtdkhajgfifaibaaDoorW.PrintWords

/-- Whatever cells read as data of type t are those of some x. -/
def Opens (P : Program) (t : TypeId) {α : Type} (d : Kd α) (wf : α → Prop) : Prop :=
  ∀ (H : Type) (enc : TypeId × Value → H) (w : World) (base : Nat) (spare : Nat → Bool) (held : Bool) (fuel : Nat) (cs : List Value) (x : DataW H × List MemPlace),
    DataW.trod enc P w base spare held fuel t cs = some x → ∃ a, d.K w a cs ∧ wf a
section
variable {P : Program} {t e : TypeId}
theorem opens_int {k : IntKind} (ht : P.underlying t = some (.int k)) : Opens P t (Kd.int k) (fun n => (Lit.int k n).wf = true) := by
  intro H enc w base spare held fuel cs x h
  obtain ⟨n, rfl, _, hw⟩ := DataW.trod_int ht h
  exact ⟨n, rfl, hw⟩
theorem opens_bool (ht : P.underlying t = some .bool) : Opens P t Kd.bool (fun _ => True) := by
  intro H enc w base spare held fuel cs x h
  obtain ⟨n, rfl, _⟩ := DataW.trod_bool ht h
  exact ⟨n, rfl, trivial⟩
theorem opens_string (ht : P.underlying t = some .string) : Opens P t Kd.string (fun s => s.size ≤ maxLen) := by
  intro H enc w base spare held fuel cs x h
  obtain ⟨n, rfl, _, hw⟩ := DataW.trod_string ht h
  exact ⟨n, rfl, hw⟩
theorem opens_mono {α : Type} {d : Kd α} {wf wf' : α → Prop} (h : Opens P t d wf) (hw : ∀ a, wf a → wf' a) : Opens P t d wf' := by
  intro H enc w base spare held fuel cs x hx
  obtain ⟨a, h1, h2⟩ := h H enc w base spare held fuel cs x hx
  exact ⟨a, h1, hw a h2⟩
theorem mapM_got {α β : Type} (f : α → Option β) (l : List α) : ∀ r : List β, l.mapM f = some r → r.length = l.length ∧ ∀ (i : Nat) (a : α), l[i]? = some a → f a = r[i]? := by
  induction l with
  | nil =>
    intro r h
    simp only [List.mapM_nil] at h
    cases h
    exact ⟨rfl, by simp⟩
  | cons x l ih =>
    intro r h
    simp only [List.mapM_cons, Option.bind_eq_bind, Option.bind_eq_some_iff] at h
    obtain ⟨y, hy, r', hr, h⟩ := h
    cases h
    obtain ⟨h1, h2⟩ := ih r' hr
    refine ⟨by simp [h1], fun i a hi => ?_⟩
    cases i with
    | zero => simp at hi; subst hi; simpa using hy
    | succ i => simp at hi ⊢; exact h2 i a hi
theorem add_add (a : Addr) (m j : Nat) : (a.add m).add j = a.add (m + j) := by
  unfold Addr.add
  by_cases hj : j = 0
  · subst hj; simp
  · rw [if_neg hj, if_neg (show ¬ m + j = 0 by omega)]
    by_cases hm : m = 0
    · subst hm; simp
    · simp [hm, Nat.add_assoc]
theorem cells_of_cells? {w : World} {base : Nat} {a : Addr} {n : Nat} {cs : List Value} (h : w.cells? base a n = some cs) : cs.length = n ∧ ∀ j u, cs[j]? = some u → w.cell? (a.add j) = some u := by
  unfold World.cells? at h
  split at h
  · obtain ⟨h1, h2⟩ := mapM_got _ _ _ h
    rw [List.length_range] at h1
    refine ⟨h1, fun j u hj => ?_⟩
    have hlt : j < n := by rw [← h1]; exact (List.getElem?_eq_some_iff.1 hj).1
    rw [h2 j j (by rw [List.getElem?_range hlt]), hj]
  · cases h
theorem opens_slice {α : Type} {d : Kd α} {wf : α → Prop} (ht : P.underlying t = some (.slice e)) (hc : P.cellsOf e = d.sz) (hd : Opens P e d wf) : Opens P t (Kd.slice e d) (fun l => l.length ≤ maxLen ∧ ∀ a ∈ l, wf a) := by
  intro H enc w base spare held fuel cs x h
  rcases DataW.trod_slice ht h with ⟨rfl, _⟩ | ⟨a, len, cap, elems, rest, n, _, rfl, _, _, hl, hm, hlen, hel, _, _⟩
  · exact ⟨[], ⟨none, 0, rfl, Nat.le_refl _, ⟨rfl, by simp, fun h => absurd h (by simp)⟩⟩, by simp [maxLen], by simp⟩
  · have key : ∀ i : Nat, i < len → ∃ b c, w.cells? base (a.add (i * P.cellsOf e)) (P.cellsOf e) = some c ∧ d.K w b c ∧ wf b := by
      intro i hi
      have h1 := hel i hi
      rw [List.getElem?_eq_getElem (by omega), Option.bind_eq_some_iff] at h1
      obtain ⟨c, hc1, hc2⟩ := h1
      obtain ⟨b, hb, hw⟩ := hd H enc w base spare held n c _ hc2
      exact ⟨b, c, hc1, hb, hw⟩
    have pick : ∀ m : Nat, m ≤ len → ∃ l : List α, l.length = m ∧ ∀ i b, l[i]? = some b → (∃ c, w.cells? base (a.add (i * P.cellsOf e)) (P.cellsOf e) = some c ∧ d.K w b c) ∧ wf b := by
      intro m
      induction m with
      | zero => intro _; exact ⟨[], rfl, by simp⟩
      | succ m ih =>
        intro hm'
        obtain ⟨l, h1, h2⟩ := ih (by omega)
        obtain ⟨b, c, hb1, hb2, hb3⟩ := key m (by omega)
        refine ⟨l ++ [b], by simp [h1], fun i q hq => ?_⟩
        by_cases hi : i < l.length
        · rw [List.getElem?_append_left hi] at hq; exact h2 i q hq
        · rw [List.getElem?_append_right (by omega)] at hq
          have hi0 : i - l.length = 0 := by
            by_cases h0 : i - l.length = 0
            · exact h0
            · rw [List.getElem?_eq_none (by simp; omega)] at hq; cases hq
          rw [hi0] at hq
          have hq' : b = q := by simpa using hq
          subst hq'
          have him : i = m := by omega
          subst him
          exact ⟨⟨c, hb1, hb2⟩, hb3⟩
    obtain ⟨l, h1, h2⟩ := pick len (Nat.le_refl _)
    refine ⟨l, ⟨some a, cap, by rw [h1], by omega, ?_⟩, by omega, fun b hb => ?_⟩
    · refine ⟨rfl, by rw [h1]; unfold maxLen at hm; omega, fun _ => ⟨a, rfl, fun j b hb => ?_⟩⟩
      obtain ⟨⟨c, hc1, hc2⟩, _⟩ := h2 j b hb
      obtain ⟨e1, e2⟩ := cells_of_cells? hc1
      refine ⟨c, by rw [e1, hc], hc2, fun i u hu => ?_⟩
      rw [← add_add, ← hc]
      exact e2 i u hu
    · obtain ⟨i, hi⟩ := List.getElem?_of_mem hb
      exact (h2 i b hi).2
/-- The fields of a struct from an offset on. -/
def OpensAt (P : Program) (fs : List Field) {α : Type} (d : Kd α) (wf : α → Prop) (off : Nat) : Prop :=
  ∀ (H : Type) (enc : TypeId × Value → H) (w : World) (base : Nat) (spare : Nat → Bool) (held : Bool) (n : Nat) (cs : List Value), cs.length = off + d.sz →
    (∀ f ∈ fs, ∃ y, DataW.trod enc P w base spare held n f.type ((cs.drop f.offset).take (P.cellsOf f.type)) = some y) → ∃ a, d.K w a (cs.drop off) ∧ wf a
theorem opensAt_one {α : Type} {d : Kd α} {wf : α → Prop} {f : Field} {off : Nat} (ho : f.offset = off) (hc : P.cellsOf f.type = d.sz) (hd : Opens P f.type d wf) : OpensAt P [f] d wf off := by
  intro H enc w base spare held n cs hl hf
  obtain ⟨y, hy⟩ := hf f (by simp)
  rw [ho, hc, List.take_of_length_le (by rw [List.length_drop]; omega)] at hy
  exact hd H enc w base spare held n _ y hy
theorem opensAt_cons {α β : Type} {d : Kd α} {d' : Kd β} {wf : α → Prop} {wf' : β → Prop} {f : Field} {fs : List Field} {off : Nat} (ho : f.offset = off) (hc : P.cellsOf f.type = d.sz) (hd : Opens P f.type d wf) (hr : OpensAt P fs d' wf' (off + d.sz)) :
    OpensAt P (f :: fs) (Kd.pair d d') (fun x => wf x.1 ∧ wf' x.2) off := by
  intro H enc w base spare held n cs hl hf
  have hsz : (Kd.pair d d').sz = d.sz + d'.sz := rfl
  obtain ⟨y, hy⟩ := hf f (by simp)
  rw [ho, hc] at hy
  obtain ⟨a, ha, hwa⟩ := hd H enc w base spare held n _ y hy
  obtain ⟨b, hb, hwb⟩ := hr H enc w base spare held n cs (by omega) (fun g hg => hf g (List.mem_cons_of_mem _ hg))
  refine ⟨(a, b), ⟨_, _, ?_, ha, hb⟩, hwa, hwb⟩
  rw [← List.drop_drop, List.take_append_drop]
theorem opens_struct {α : Type} {d : Kd α} {wf : α → Prop} {fs : Array Field} (ht : P.underlying t = some (.struct fs)) (hc : P.cellsOf t = d.sz) (h : OpensAt P fs.toList d wf 0) : Opens P t d wf := by
  intro H enc w base spare held fuel cs x hx
  obtain ⟨xs, n, _, _, hl, hlen, hf⟩ := DataW.trod_struct ht hx
  have := h H enc w base spare held n cs (by omega) (fun f hm => by
    obtain ⟨i, hi⟩ := List.getElem?_of_mem hm
    have hi' : fs[i]? = some f := by simpa using hi
    have hlt : i < xs.length := by rw [hlen]; exact (Array.getElem?_eq_some_iff.1 hi').1
    have h1 := hf i f hi'
    rw [List.getElem?_eq_getElem hlt] at h1
    exact ⟨_, h1⟩)
  simpa using this
theorem opens_iso {α β : Type} {d : Kd α} {wf : α → Prop} (h : Opens P t d wf) (f : β → α) (g : α → β) (hg : ∀ a, f (g a) = a) : Opens P t (Kd.iso d f) (fun b => wf (f b)) := by
  intro H enc w base spare held fuel cs x hx
  obtain ⟨a, h1, h2⟩ := h H enc w base spare held fuel cs x hx
  refine ⟨g a, ?_, by show wf (f (g a)); rw [hg]; exact h2⟩
  show d.K w (f (g a)) cs
  rw [hg]; exact h1
end
end Go.Proofs.YtdkhajgfifaibaaDoor.Op
