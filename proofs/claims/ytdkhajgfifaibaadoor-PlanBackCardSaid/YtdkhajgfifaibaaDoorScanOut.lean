import Derived.Test.YtdkhajgfifaibaaDoorPAx5
/-! What the program reads, by the spec on lists. -/
namespace Go.Proofs.YtdkhajgfifaibaaDoor.Scan
open Go.RowKit Go.Proofs.YtdkhajgfifaibaaDoorW.PrintWords Go.Proofs.YtdkhajgfifaibaaDoorW.PrintLast Go.Proofs.YtdkhajgfifaibaaDoor.PA
set_option linter.unusedVariables false
theorem wrapS {x : Int} (h : -9223372036854775808 ≤ x) (h' : x ≤ 9223372036854775807) : wrap64 x = x := by unfold wrap64; omega
theorem rd_at {b : List Int} {i : Nat} (h : i < b.length) : rd b (i : Int) = b[i] := by unfold rd; simp [List.getD, List.getElem?_eq_getElem h]
theorem drop_at {α : Type} {b : List α} {i : Nat} (h : i < b.length) : b.drop i = b[i] :: b.drop (i + 1) := List.drop_eq_getElem_cons h
def Bytes (b : List Int) : Prop := ∀ c ∈ b, 0 ≤ c ∧ c ≤ 255
theorem Bytes.drop {b : List Int} (h : Bytes b) (i : Nat) : Bytes (b.drop i) := fun c hc => h c (List.mem_of_mem_drop hc)
theorem Bytes.snoc {b : List Int} (h : Bytes b) {c : Int} (hc : 0 ≤ c ∧ c ≤ 255) : Bytes (b ++ [c]) := fun x hx => by
  rcases List.mem_append.mp hx with h1 | h1
  · exact h x h1
  · simp at h1; subst h1; exact hc
theorem Bytes.app {b c : List Int} (h : Bytes b) (k : Bytes c) : Bytes (b ++ c) := fun x hx => by
  rcases List.mem_append.mp hx with h1 | h1
  · exact h x h1
  · exact k x h1
def textOut (o : Option (List (List Int))) : List (List Int) × Int := match o with | some r => (r, 0) | none => ([], 2)
def linesOut (b : List Int) : List (List Int) × Int := if (b.length : Int) > 4096 then ([], 6) else textOut (textF b)
theorem scan_out (b : List Int) : scan_Lines.f b = some (linesOut b) := by
  unfold scan_Lines.f linesOut textOut
  by_cases h : (b.length : Int) > 4096
  · rw [if_pos h, if_pos h]
  · rw [if_neg h, if_neg h]; cases textF b <;> rfl

/-- How long lists of numbers are that are read. -/
theorem flush_len {w acc a : List Int} (h : flush w acc = some a) : a.length ≤ acc.length + w.length := by
  unfold flush at h
  by_cases hw : w = []
  · rw [if_pos hw] at h; injection h with h; subst h; omega
  · rw [if_neg hw] at h
    have := List.length_pos_iff.mpr hw
    cases hwd : word w with
    | none => rw [hwd] at h; simp at h
    | some n => rw [hwd] at h; simp at h; subst h; simp; omega
theorem lineS_len : ∀ (r w acc a : List Int), lineS w acc r = some a → a.length ≤ acc.length + w.length + r.length := by
  intro r
  induction r with
  | nil => intro w acc a h; have := flush_len (by simpa [lineS] using h); simp; omega
  | cons c t ih =>
    intro w acc a h
    simp only [lineS] at h
    by_cases h1 : c = 35
    · rw [if_pos h1] at h; have := flush_len h; simp; omega
    · rw [if_neg h1] at h
      by_cases h2 : c = 32
      · rw [if_pos h2] at h
        cases hf : flush w acc with
        | none => rw [hf] at h; simp at h
        | some x => rw [hf] at h; have := ih [] x a h; have := flush_len hf; simp at *; omega
      · rw [if_neg h2] at h; have := ih _ _ _ h; simp at *; omega
theorem runL_len : ∀ (s : List (List Int)) (x : List (List Int)) (M : Nat), (∀ b ∈ s, b.length ≤ M) → runL s = some x → x.length ≤ s.length ∧ ∀ l ∈ x, l.length ≤ M := by
  intro s
  induction s with
  | nil => intro x M _ h; simp [runL] at h; subst h; simp
  | cons b t ih =>
    intro x M hM h
    simp only [runL] at h
    cases hl : lineF b with
    | none => rw [hl] at h; simp at h
    | some l =>
      rw [hl] at h
      simp only [Option.bind_some] at h
      cases hr : runL t with
      | none => rw [hr] at h; simp at h
      | some y =>
        rw [hr] at h
        simp only [Option.map_some, Option.some.injEq] at h
        obtain ⟨h1, h2⟩ := ih y M (fun b hb => hM b (by simp [hb])) hr
        have h3 : l.length ≤ M := by have := lineS_len b [] [] l hl; have := hM b (by simp); simp at *; omega
        by_cases h0 : l = []
        · rw [if_pos h0] at h; subst h; exact ⟨by simp; omega, h2⟩
        · rw [if_neg h0] at h; subst h
          refine ⟨by simp; omega, fun q hq => ?_⟩
          rcases List.mem_cons.mp hq with h | h
          · subst h; exact h3
          · exact h2 q h
theorem split_len : ∀ t : List Int, (split t).length ≤ t.length + 1 ∧ ∀ b ∈ split t, b.length ≤ t.length := by
  intro t
  induction t with
  | nil => simp [split]
  | cons c t ih =>
    obtain ⟨h1, h2⟩ := ih
    simp only [split]
    by_cases h : c = 10
    · rw [if_pos h]; refine ⟨by simp; omega, fun b hb => ?_⟩
      rcases List.mem_cons.mp hb with e | e
      · subst e; simp
      · have := h2 b e; simp; omega
    · rw [if_neg h]
      cases hs : split t with
      | nil => exact absurd hs (split_ne t)
      | cons x y =>
        rw [hs] at h1 h2
        refine ⟨by simp at *; omega, fun b hb => ?_⟩
        rcases List.mem_cons.mp hb with e | e
        · subst e; have := h2 x (by simp); simp; omega
        · have := h2 b (by simp [e]); simp; omega
theorem out_len (b : List Int) : (linesOut b).1.length ≤ 10000 ∧ ∀ l ∈ (linesOut b).1, l.length ≤ 100000 := by
  unfold linesOut
  by_cases h : (b.length : Int) > 4096
  · rw [if_pos h]; simp
  · rw [if_neg h]
    unfold textOut
    cases ht : textF b with
    | none => simp
    | some x =>
      obtain ⟨s1, s2⟩ := split_len b
      obtain ⟨h1, h2⟩ := runL_len (split b) x b.length s2 ht
      exact ⟨by simp only; omega, fun l hl => by have := h2 l hl; omega⟩
theorem bytes_of {b : List Int} (h : ∀ a ∈ b, (Lit.int .u8 a).wf = true) : Bytes b := fun c hc => by
  have := h c hc
  simp [Lit.wf, IntKind.min, IntKind.max, IntKind.bits, IntKind.signed] at this
  omega
theorem out_small {b : List Int} (h : b.length ≤ 4096) : linesOut b = textOut (textF b) := by unfold linesOut; rw [if_neg (by omega)]
theorem rd_row_at' {l : List (List Int)} {i : Nat} (h : i < l.length) : rd_L1 l (i : Int) = l[i] := by unfold rd_L1; simp [List.getD, List.getElem?_eq_getElem h]
end Go.Proofs.YtdkhajgfifaibaaDoor.Scan
