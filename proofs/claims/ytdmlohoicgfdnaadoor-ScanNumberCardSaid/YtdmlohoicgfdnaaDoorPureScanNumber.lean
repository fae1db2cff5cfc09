/- A number of at most 12 digits, noughts ahead of it, is read as itself; with more than 12 digits it is none. -/
import Derived.Test.YtdmlohoicgfdnaaDoorDefScanNumber
import Derived.Test.YtdmlohoicgfdnaaDoorPrintEnd
import Derived.Test.YtdmlohoicgfdnaaDoorPAx9
namespace Go.Proofs.YtdmlohoicgfdnaaDoor.Pure
open Go.RowKit Go.Proofs.YtdmlohoicgfdnaaDoor.PA Go.Proofs.YtdmlohoicgfdnaaDoorW.PrintWords Go.Proofs.YtdmlohoicgfdnaaDoorW.PrintLast Go.Proofs.YtdmlohoicgfdnaaDoor.Scan
set_option linter.unusedVariables false
theorem digs_zeros (ds : List Int) : ∀ m : Nat, digs 0 (List.replicate m 48 ++ ds) = digs 0 ds
  | 0 => rfl
  | m + 1 => by
    rw [List.replicate_succ, List.cons_append, digs, if_pos (by decide)]
    exact digs_zeros ds m
theorem textF_word {t : List Int} (h : ∀ c ∈ t, c ≠ 32 ∧ c ≠ 35 ∧ c ≠ 10) (hne : t ≠ []) : textF t = (word t).map fun n => [[n]] := by
  unfold textF
  rw [split_no (fun c hc => (h c hc).2.2)]
  have e : lineF t = (word t).map fun n => [n] := by
    have := lineS_word t [] [] [] (fun c hc => ⟨(h c hc).1, (h c hc).2.1⟩)
    rw [List.append_nil] at this
    unfold lineF
    rw [this, List.nil_append, lineS, flush, if_neg hne]; rfl
  rw [runL, e]
  cases word t with
  | none => rfl
  | some n => simp [runL]
/-- The text that the law makes. -/
def made (mi : Bool) (m u : Nat) : List Int := pre mi (List.replicate m 48 ++ decI u)
theorem zeros_digits (m u : Nat) : ∀ c ∈ List.replicate m 48 ++ decI u, 48 ≤ c ∧ c ≤ 57 := by
  intro c hc
  rcases List.mem_append.mp hc with hc | hc
  · have := List.eq_of_mem_replicate hc; omega
  · exact decI_digits u c hc
theorem made_no (mi : Bool) (m u : Nat) : ∀ c ∈ made mi m u, c ≠ 32 ∧ c ≠ 35 ∧ c ≠ 10 := by
  intro c hc
  unfold made pre at hc
  rcases List.mem_append.mp hc with hc | hc
  · split at hc <;> simp at hc; omega
  · have := zeros_digits m u c hc; omega
theorem made_ne (mi : Bool) (m u : Nat) : made mi m u ≠ [] := by
  intro e
  unfold made pre at e
  have h := congrArg List.length e
  have := decI_pos u
  rw [List.length_append, List.length_append, List.length_nil] at h
  omega
theorem made_word (mi : Bool) (m u : Nat) : word (made mi m u) = if m + (decI u).length ≤ 12 then some (if mi = true then -(u : Int) else (u : Int)) else none := by
  unfold made
  have hp := decI_pos u
  have hl : (List.replicate m (48 : Int) ++ decI u).length = m + (decI u).length := by simp
  by_cases h : m + (decI u).length ≤ 12
  · rw [if_pos h, word_done (zeros_digits m u) (by omega) (by omega) (by rw [digs_zeros, decI_digs])]
  · rw [if_neg h]
    have e : word (pre mi (List.replicate m 48 ++ decI u)) = word (pre mi (List.replicate m 48 ++ decI u) ++ []) := by simp
    rw [e, word_pre]
    · rw [core_long (by omega)]; simp
    · intro _
      cases hz : List.replicate m (48 : Int) ++ decI u with
      | nil => rw [hz] at hl; simp at hl; omega
      | cons x t =>
        have := zeros_digits m u x (by rw [hz]; simp)
        simp only [List.append_nil, List.head?_cons, ne_eq, Option.some.injEq]; omega
theorem made_out (mi : Bool) (m u : Nat) (hm : m ≤ 12) (hu : (decI u).length ≤ 12) : linesOut (made mi m u) = if m + (decI u).length ≤ 12 then ([[if mi = true then -(u : Int) else (u : Int)]], 0) else ([], 2) := by
  have hl : (made mi m u).length ≤ 4096 := by
    unfold made pre
    rw [List.length_append, List.length_append, List.length_replicate]
    split <;> simp <;> omega
  rw [out_small hl, textF_word (made_no mi m u) (made_ne mi m u), made_word]
  by_cases h : m + (decI u).length ≤ 12
  · rw [if_pos h, if_pos h]; rfl
  · rw [if_neg h, if_neg h]; rfl
theorem loop_ev (mi : Bool) (u : Nat) (m : Nat) (hm : m ≤ 12) (hu : (decI u).length ≤ 12) (want : Int) (hw : want = if mi = true then -(u : Int) else (u : Int)) :
    ∀ (d i : Nat), i + d = m → Ev (fun k => haulierlaw04_ScanNumber.l0 k (m : Int) (decI u ++ [10]) (pre mi (List.replicate i 48)) want (i : Int)) true := by
  have hpos := decI_pos u
  have hpl : ∀ i : Nat, i ≤ 12 → (pre mi (List.replicate i 48)).length ≤ 13 := by
    intro i hi
    unfold pre
    rw [List.length_append, List.length_replicate]
    split <;> simp <;> omega
  intro d
  induction d with
  | zero =>
    intro i hi
    obtain rfl : i = m := by omega
    have hlen : ((decI u ++ [10]).length : Int) = (decI u).length + 1 := by simp
    have hp := hpl i hm
    have e1 : wrap64 (((decI u ++ [10]).length : Int) - 1) = ((decI u).length : Int) := by rw [hlen, wrapS (by omega) (by omega)]; omega
    have e2 : wrap64 (wrap64 ((i : Int) + ((decI u ++ [10]).length : Int)) - 1) = (i : Int) + (decI u).length := by
      rw [hlen, wrapS (x := (i : Int) + (((decI u).length : Int) + 1)) (by omega) (by omega), wrapS (by omega) (by omega)]; omega
    have e3 : (decI u ++ [10]).take (((decI u).length : Int)).toNat = decI u := by simp
    have e4 : pre mi (List.replicate i 48) ++ decI u = made mi i u := by unfold made pre; simp
    have hb : (pre mi (List.replicate i 48)).length + (decI u).length < 140737488355328 := by omega
    have hout := made_out mi i u hm hu
    refine Ev.step (f := fun _ => some true) (fun k => ?_) (Ev.now _)
    simp only [haulierlaw04_ScanNumber.l0]
    rw [if_neg (by omega), e1, if_pos (by omega), if_pos (by omega), e3, Option.bind_some, if_pos hb, e4, scan_out, Option.bind_some, e2, hout]
    by_cases h : i + (decI u).length ≤ 12
    · rw [if_pos h, if_neg (by omega), hw]
      simp [rd_L2, rd]
    · rw [if_neg h, if_pos (by omega)]; rfl
  | succ d ih =>
    intro i hi
    have hp := hpl i (by omega)
    refine Ev.step (f := fun k => haulierlaw04_ScanNumber.l0 k (m : Int) (decI u ++ [10]) (pre mi (List.replicate (i + 1) 48)) want ((i + 1 : Nat) : Int)) (fun k => ?_) (ih (i + 1) (by omega))
    simp only [haulierlaw04_ScanNumber.l0]
    have e : pre mi (List.replicate i 48) ++ [48] = pre mi (List.replicate (i + 1) 48) := by
      unfold pre; rw [List.append_assoc, ← List.replicate_succ']
    rw [if_pos (by omega), if_pos (by omega), e, show wrap64 ((i : Int) + 1) = ((i + 1 : Nat) : Int) by rw [wrapS (by omega) (by omega)]; omega]
theorem ScanNumber : haulierlaw04_ScanNumber.Claim := by
  intro n m mi _ _ _
  suffices h : Ev (fun k => haulierlaw04_ScanNumber.f k n m mi) true from h.rounds
  have hout : ∀ b : Bool, b = true → Ev (fun k => haulierlaw04_ScanNumber.j0 k n m mi true b) true := by
    rintro _ rfl
    refine Ev.step (f := fun _ => some true) (fun k => ?_) (Ev.now _)
    simp only [haulierlaw04_ScanNumber.j0]; rw [if_pos trivial]
  by_cases h1 : n < 0
  · refine Ev.congr (fun k => ?_) (hout true rfl)
    simp only [haulierlaw04_ScanNumber.f, awake_true, Option.bind_some, if_true]; rw [if_pos h1]
  by_cases h2 : n ≥ 1000000000000
  · refine Ev.congr (fun k => ?_) (hout true rfl)
    simp only [haulierlaw04_ScanNumber.f, awake_true, Option.bind_some, if_true]; rw [if_neg h1, if_pos h2]
  by_cases h3 : m < 0
  · refine Ev.congr (fun k => ?_) (hout true rfl)
    simp only [haulierlaw04_ScanNumber.f, awake_true, Option.bind_some, if_true]; rw [if_neg h1, if_neg h2, if_pos h3]
  by_cases h4 : m > 12
  · refine Ev.congr (fun k => ?_) (hout (decide (m > 12)) (decide_eq_true h4))
    simp only [haulierlaw04_ScanNumber.f, awake_true, Option.bind_some, if_true]; rw [if_neg h1, if_neg h2, if_neg h3]
  refine Ev.congr (f := fun k => haulierlaw04_ScanNumber.j0 k n m mi true false) (fun k => ?_) ?_
  · simp only [haulierlaw04_ScanNumber.f, awake_true, Option.bind_some, if_true]; rw [if_neg h1, if_neg h2, if_neg h3, decide_eq_false h4]
  obtain ⟨u, rfl⟩ : ∃ u : Nat, n = u := ⟨n.toNat, by omega⟩
  obtain ⟨q, rfl⟩ : ∃ q : Nat, m = q := ⟨m.toNat, by omega⟩
  have hu : (decI u).length ≤ 12 := decI_len 11 u (by omega)
  have hpos := decI_pos u
  have hprint : Prints [[(u : Int)]] := by
    refine ⟨by simp, fun x hx => ?_⟩
    simp only [List.mem_singleton] at hx
    subst hx
    refine ⟨by simp, fun y hy => ?_⟩
    simp only [List.mem_singleton] at hy
    omega
  have htext : textP [[(u : Int)]] = decI u ++ [10] := by
    have e : itoaI (u : Int) = decI u := by
      rw [itoaI_pre, decide_eq_false (by omega), Int.natAbs_natCast]; rfl
    simp [textP, lineP, sepI, e]
  have hlen : ((decI u ++ [10]).length : Int) = (decI u).length + 1 := by simp
  cases mi with
  | true =>
    have hl := loop_ev true u q (by omega) hu (-(u : Int)) (by simp) q 0 (by omega)
    refine Ev.step (f := fun k => haulierlaw04_ScanNumber.j1 k q (decI u ++ [10]) ([] ++ [45]) (-(u : Int))) (fun k => ?_) (Ev.step (fun k => ?_) hl)
    · simp only [haulierlaw04_ScanNumber.j0]
      rw [if_neg (by decide), print_out hprint, Option.bind_some, htext, if_neg (by omega), if_pos trivial, if_pos (by decide), wrapS (by omega) (by omega)]
    · simp only [haulierlaw04_ScanNumber.j1]; rfl
  | false =>
    have hl := loop_ev false u q (by omega) hu (u : Int) (by simp) q 0 (by omega)
    refine Ev.step (f := fun k => haulierlaw04_ScanNumber.j1 k q (decI u ++ [10]) [] (u : Int)) (fun k => ?_) (Ev.step (fun k => ?_) hl)
    · simp only [haulierlaw04_ScanNumber.j0]
      rw [if_neg (by decide), print_out hprint, Option.bind_some, htext, if_neg (by omega), if_neg (by decide)]
    · simp only [haulierlaw04_ScanNumber.j1]; rfl
end Go.Proofs.YtdmlohoicgfdnaaDoor.Pure
