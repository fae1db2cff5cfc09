import Derived.Test.YtdmlohoicgfdnaaScanRef
import Derived.Test.YtdmlohoicgfdnaaPAx3
/-! What all laws of the chapter use: the chapter's example; texts that are read the same. -/
namespace Go.Proofs.Ytdmlohoicgfdnaa.Scan
open Go.RowKit Go.Proofs.YtdmlohoicgfdnaaW.PrintWords Go.Proofs.YtdmlohoicgfdnaaW.PrintLast Go.Proofs.Ytdmlohoicgfdnaa.PA
set_option linter.unusedVariables false
theorem awake_true : haulierlaw04_awake.f = some true := by
  unfold haulierlaw04_awake.f
  rw [scan_out]
  rfl
theorem out_small {b : List Int} (h : b.length ≤ 4096) : linesOut b = textOut (textF b) := by unfold linesOut; rw [if_neg (by omega)]
theorem out_text {b c : List Int} (h : textF b = textF c) (hb : b.length ≤ 4096) (hc : c.length ≤ 4096) : linesOut b = linesOut c := by rw [out_small hb, out_small hc, h]
/-- Both texts are read the same: the law's end. -/
theorem both_ev {b c : List Int} (h : linesOut b = linesOut c) : Ev (fun k => (scan_Lines.f b).bind fun bt1 => (scan_Lines.f c).bind fun bt2 => (haulierref04_Same.f k bt1.1 bt2.1).bind fun t => (if t = true then (some (bt1.2 == bt2.2)) else none)) true := by
  have hs := out_same b
  refine Ev.congr (f := fun k => (haulierref04_Same.f k (linesOut b).1 (linesOut b).1).bind fun t => (if t = true then (some ((linesOut b).2 == (linesOut b).2)) else none)) (fun k => ?_) (Ev.bind hs ?_)
  · rw [scan_out, scan_out, ← h]; rfl
  · refine Ev.congr (f := fun _ => some true) (fun k => ?_) (Ev.now _)
    rw [if_pos rfl, beq_self_eq_true]
theorem split_note {note : List Int} (h : ∀ c ∈ note, c ≠ 10) : split (35 :: note) = [35 :: note] := split_no (fun c hc => by
  rcases List.mem_cons.mp hc with e | e
  · subst e; decide
  · exact h c e)
theorem lineS_note (note : List Int) : ∀ (cur w acc : List Int), lineS w acc (cur ++ 35 :: note) = lineS w acc (cur ++ [35]) := by
  intro cur
  induction cur with
  | nil => intro w acc; simp [lineS]
  | cons c t ih =>
    intro w acc
    simp only [List.cons_append, lineS]
    by_cases h1 : c = 35
    · rw [if_pos h1, if_pos h1]
    · rw [if_neg h1, if_neg h1]
      by_cases h2 : c = 32
      · rw [if_pos h2, if_pos h2]; simp only [ih]
      · rw [if_neg h2, if_neg h2]; exact ih _ _
theorem text_note {note : List Int} (h : ∀ c ∈ note, c ≠ 10) : ∀ (head cur : List Int), runL (splitC cur (head ++ 35 :: note)) = runL (splitC cur (head ++ [35])) := by
  intro head
  induction head with
  | nil =>
    intro cur
    have e1 : splitC cur (35 :: note) = [cur ++ 35 :: note] := by unfold splitC; rw [split_note h]
    have e2 : splitC cur [35] = [cur ++ [35]] := by simp [splitC, split]
    simp only [List.nil_append, e1, e2, runL, lineF, lineS_note note cur]
  | cons c t ih =>
    intro cur
    simp only [List.cons_append]
    by_cases h10 : c = 10
    · subst h10
      rw [splitC_ten, splitC_ten, runL, runL, ← splitC_nil, ← splitC_nil, ih]
    · rw [splitC_cons h10, splitC_cons h10]; exact ih _
theorem textF_note {note : List Int} (h : ∀ c ∈ note, c ≠ 10) (head : List Int) : textF (head ++ 35 :: note) = textF (head ++ [35]) := by
  unfold textF; rw [← splitC_nil, ← splitC_nil]; exact text_note h head []
/-- Each space told twice. -/
def dbl (l : List Int) : List Int := l.flatMap fun c => if c = 32 then [32, 32] else [c]
theorem dbl_append (a b : List Int) : dbl (a ++ b) = dbl a ++ dbl b := by simp [dbl]
theorem dbl_len (l : List Int) : (dbl l).length ≤ 2 * l.length := by
  induction l with
  | nil => simp [dbl]
  | cons c t ih =>
    have e : dbl (c :: t) = (if c = 32 then [32, 32] else [c]) ++ dbl t := by simp [dbl]
    rw [e]; split <;> simp <;> omega
theorem lineS_dbl : ∀ (b w acc : List Int), lineS w acc (dbl b) = lineS w acc b := by
  intro b
  induction b with
  | nil => intro w acc; rfl
  | cons c t ih =>
    intro w acc
    have e : dbl (c :: t) = (if c = 32 then [32, 32] else [c]) ++ dbl t := by simp [dbl]
    rw [e]
    by_cases h : c = 32
    · subst h
      rw [if_pos rfl]
      simp only [List.cons_append, List.nil_append, lineS, if_true]
      rw [if_neg (by decide), if_neg (by decide)]
      congr 1; funext a
      rw [if_neg (by decide)]
      simp only [flush, if_true, Option.bind_some]
      exact ih _ _
    · rw [if_neg h]
      simp only [List.cons_append, List.nil_append, lineS, if_neg h]
      rw [ih]
theorem text_dbl : ∀ (t cur : List Int), runL (splitC (dbl cur) (dbl t)) = runL (splitC cur t) := by
  intro t
  induction t with
  | nil =>
    intro cur
    have e : dbl [] = [] := rfl
    rw [e]
    simp only [splitC, split, List.append_nil, runL, lineF, lineS_dbl]
  | cons c t ih =>
    intro cur
    have e : dbl (c :: t) = (if c = 32 then [32, 32] else [c]) ++ dbl t := by simp [dbl]
    rw [e]
    by_cases h10 : c = 10
    · subst h10
      rw [if_neg (by decide), List.cons_append, List.nil_append, splitC_ten, splitC_ten, runL, runL, ← splitC_nil, ← splitC_nil]
      have := ih []
      rw [show dbl [] = [] from rfl] at this
      rw [this]
      simp only [lineF, lineS_dbl]
    · rw [splitC_cons h10]
      rw [← ih (cur ++ [c]), dbl_append]
      by_cases h : c = 32
      · subst h
        rw [if_pos rfl]
        simp only [List.cons_append, List.nil_append]
        rw [splitC_cons (by decide), splitC_cons (by decide)]
        simp [dbl]
      · rw [if_neg h]
        simp only [List.cons_append, List.nil_append]
        rw [splitC_cons h10]
        simp [dbl, h]
theorem textF_dbl (t : List Int) : textF (dbl t) = textF t := by
  unfold textF; rw [← splitC_nil, ← splitC_nil]; exact text_dbl t []
end Go.Proofs.Ytdmlohoicgfdnaa.Scan
