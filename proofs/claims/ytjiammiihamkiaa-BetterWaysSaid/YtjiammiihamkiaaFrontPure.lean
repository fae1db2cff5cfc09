/- What a front is, in plain Lean: a list's entries that no other one leaves without use. -/
namespace Go.Proofs.Ytjiammiihamkiaa.FrontPure
set_option linter.unusedSimpArgs false
set_option linter.unusedVariables false
section
variable {α : Type} (th : α → α → Bool)
def fstep (acc : List α) (b : α) : List α := if acc.any (fun a => th a b) then acc else (acc.filter fun a => !th b a) ++ [b]
def frontL (l : List α) : List α := l.foldl (fstep th) []
variable {th}
theorem frontL_snoc (l : List α) (b : α) : frontL th (l ++ [b]) = fstep th (frontL th l) b := by simp [frontL]
theorem fstep_length (acc : List α) (b : α) : (fstep th acc b).length ≤ acc.length + 1 := by
  unfold fstep
  split
  · omega
  · have := List.length_filter_le (fun a => !th b a) acc
    simp; omega
theorem foldl_length (l acc : List α) : (l.foldl (fstep th) acc).length ≤ acc.length + l.length := by
  induction l generalizing acc with
  | nil => simp
  | cons b l ih =>
    have := ih (fstep th acc b)
    have := fstep_length (th := th) acc b
    simp only [List.foldl_cons, List.length_cons]
    omega
theorem frontL_length (l : List α) : (frontL th l).length ≤ l.length := by
  have := foldl_length (th := th) l []
  simpa [frontL] using this
end
end Go.Proofs.Ytjiammiihamkiaa.FrontPure
