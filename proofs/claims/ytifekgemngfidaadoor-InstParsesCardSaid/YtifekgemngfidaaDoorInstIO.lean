import Derived.Test.YtifekgemngfidaaDoorMayBase
import Derived.Test.YtifekgemngfidaaDoorPrintOut
import Derived.Test.YtifekgemngfidaaDoorPAx6
import Derived.Test.YtifekgemngfidaaDoorPAx7
import Derived.Test.YtifekgemngfidaaDoorPAx5
/-! What the program parses, prints and compares: by plain functions. -/
namespace Go.Proofs.YtifekgemngfidaaDoor.Inst
open Go.RowKit Go.Proofs.YtifekgemngfidaaDoorW.PrintWords Go.Proofs.YtifekgemngfidaaDoorW.PrintLast Go.Proofs.YtifekgemngfidaaDoor.PA
open Go.Proofs.YtifekgemngfidaaDoor.Scan (linesOut scan_out out_len textP Prints print_out rd_row_at' Num12 itoaI sepI lineP textF textF_textP textOut decI_len itoaI_pre decI)
set_option linter.unusedVariables false
def stopOf (l : List Int) : St := ⟨rd l 0, rd l 1, rd l 2, rd l 3, rd l 4, rd l 5⟩
def lineOf (s : St) : List Int := [s.f0, s.f1, s.f2, s.f3, s.f4, s.f5]
theorem stop_line (s : St) : stopOf (lineOf s) = s := rfl
theorem stop_lines (l : List St) : (l.map lineOf).map stopOf = l := by
  rw [List.map_map]
  have : (stopOf ∘ lineOf) = id := funext fun s => stop_line s
  rw [this, List.map_id]
/-- What comes of an instance's numbers. -/
def fin_ (p c r : Int) (s : List St) : Int × Int × Int × List St × Int := if mayB p c r s = true then (p, c, r, s, 0) else (0, 0, 0, [], 1)
/-- What comes of lines that were read. -/
def parseOut (q : List (List Int) × Int) : Int × Int × Int × List St × Int :=
  if q.2 = 0 then (match q.1 with
    | [] => (0, 0, 0, [], 2)
    | l :: rest => if l.length = 3 ∧ (rest.all fun x => x.length == 6) = true then fin_ (rd l 0) (rd l 1) (rd l 2) (rest.map stopOf) else (0, 0, 0, [], 2))
  else (0, 0, 0, [], q.2)
theorem parse_loop (rest : List (List Int)) (p c r : Int) (h6 : ∀ l ∈ rest, l.length = 6) (hn : rest.length ≤ 10000) : ∀ (d i : Nat), i + d = rest.length →
    Ev (fun k => inst_Parse.l0 k rest (rest.length : Int) (i : Int) p c r ((rest.take i).map stopOf)) (fin_ p c r (rest.map stopOf)) := by
  intro d
  induction d with
  | zero =>
    intro i hi
    rw [List.take_of_length_le (by omega)]
    refine Ev.step (f := fun k => (inst_May.f k p c r (rest.map stopOf)).bind fun t => if t = true then some (p, c, r, rest.map stopOf, 0) else some (0, 0, 0, [], 1)) (fun k => ?_) (Ev.bind (may_ev p c r (rest.map stopOf)) (Ev.congr (f := fun _ => some (fin_ p c r (rest.map stopOf))) (fun k => ?_) (Ev.now _)))
    · simp only [inst_Parse.l0]; rw [if_neg (by omega)]
    · unfold fin_; split <;> rfl
  | succ d ih =>
    intro i hi
    have hlt : i < rest.length := by omega
    have h6' := h6 rest[i] (List.getElem_mem hlt)
    have hl : ((rest.take i).map stopOf).length < 2932031007402 := by rw [List.length_map, List.length_take]; omega
    have hs : inst_stop.f rest[i] = some (rd rest[i] 0, rd rest[i] 1, rd rest[i] 2, rd rest[i] 3, rd rest[i] 4, rd rest[i] 5) := by unfold inst_stop.f; rw [if_pos h6']
    have hx : (rest.take i).map stopOf ++ [stopOf rest[i]] = (rest.take (i + 1)).map stopOf := by rw [List.take_succ_eq_append_getElem hlt, List.map_append]; rfl
    have h1 : (i : Int) < (rest.length : Int) := by omega
    have h2 : (0 : Int) ≤ (i : Int) := by omega
    have h3 : wrap64 ((i : Int) + 1) = ((i + 1 : Nat) : Int) := w_next hlt (by omega)
    refine Ev.step (f := fun k => inst_Parse.l0 k rest (rest.length : Int) ((i + 1 : Nat) : Int) p c r ((rest.take (i + 1)).map stopOf)) (fun k => ?_) (ih (i + 1) (by omega))
    simp only [inst_Parse.l0]
    rw [if_pos h1, if_pos h2, if_pos h1, rd_row_at' hlt, hs, Option.bind_some, if_pos hl, h3, ← hx]
    rfl
theorem any_all6 (l : List (List Int)) : (l.any fun x => x.length != 6) = !(l.all fun x => x.length == 6) := by
  rw [List.not_all_eq_any_not]; rfl
theorem parse_ev (b : List Int) : Ev (fun k => inst_Parse.f k b) (parseOut (linesOut b)) := by
  have hlen := (out_len b).1
  have e : ∀ k, inst_Parse.f k b = (some (linesOut b)).bind _ := fun k => by unfold inst_Parse.f; rw [scan_out]
  generalize linesOut b = q at *
  refine Ev.congr e ?_
  simp only [Option.bind_some]
  have bad : Ev (fun k => inst_Parse.j0 k q.1 true) (0, 0, 0, [], 2) := by
    refine Ev.step (f := fun _ => some _) (fun k => ?_) (Ev.now _)
    simp only [inst_Parse.j0]; rw [if_pos trivial]
  obtain ⟨L, c0⟩ := q
  unfold parseOut
  by_cases h0 : c0 = 0
  · simp only [if_pos h0]
    cases L with
    | nil => simpa using bad
    | cons l rest =>
      simp only at hlen bad
      have n1 : ¬ (((l :: rest).length : Nat) : Int) = 0 := by simp only [List.length_cons]; omega
      have n2 : (0 : Int) < (((l :: rest).length : Nat) : Int) := by simp only [List.length_cons]; omega
      have n3 : (1 : Int) ≤ (((l :: rest).length : Nat) : Int) := by simp only [List.length_cons]; omega
      have hr : rd_L3 (l :: rest) 0 = l := rfl
      simp only [if_neg n1, if_pos n2, if_pos n3, hr]
      by_cases h3 : l.length = 3
      · have h3' : (l.length : Int) = 3 := by omega
        simp only [if_pos h3']
        have hd : (l :: rest).drop 1 = rest := rfl
        have hc : slices_ContainsFunc_int_int.f rest 999020 = some (!(rest.all fun x => x.length == 6)) := by unfold slices_ContainsFunc_int_int.f; rw [any_all6]
        rw [hd, hc]
        simp only [Option.bind_some]
        cases ha : rest.all fun x => x.length == 6 with
        | false => simpa [h3] using bad
        | true =>
          rw [if_pos ⟨h3, rfl⟩]
          have h6 : ∀ x ∈ rest, x.length = 6 := fun x hx => by have := List.all_eq_true.mp ha x hx; simpa using this
          refine Ev.step (f := fun k => inst_Parse.l0 k rest (rest.length : Int) ((0 : Nat) : Int) (rd l 0) (rd l 1) (rd l 2) ((rest.take 0).map stopOf)) (fun k => ?_) (parse_loop rest _ _ _ h6 (by simp only [List.length_cons] at hlen; omega) rest.length 0 (by omega))
          simp only [inst_Parse.j0]
          rw [if_neg (by decide), if_pos n2, hr, if_pos (by omega), if_pos (by omega), if_pos (by omega), if_pos n3]
          rfl
      · have h3' : ¬ (l.length : Int) = 3 := by omega
        simp only [if_neg h3']
        rw [if_neg (fun h => h3 h.1)]
        exact bad
  · simp only [if_neg h0]
    exact Ev.now _
/-- An instance's lines. -/
def rows (p c r : Int) (l : List St) : List (List Int) := [p, c, r] :: l.map lineOf
/-- What is printed. -/
def printOut (p c r : Int) (l : List St) : List Int × Int := if mayB p c r l = true then (textP (rows p c r l), 0) else ([], 1)
theorem may_dem {p c r : Int} {l : List St} (h : mayB p c r l = true) (j : Nat) (hj : j < l.length) : -1000 ≤ l[j].f2 ∧ l[j].f2 ≤ 1000 := by
  have hh := may_head h
  have h1 := (may_get h j hj).2
  unfold demB at h1
  by_cases h0 : j = 0
  · rw [if_pos h0] at h1; have := of_decide_eq_true h1; omega
  · rw [if_neg h0] at h1
    by_cases hp : (j : Int) ≤ p
    · rw [if_pos hp] at h1; have := of_decide_eq_true h1; omega
    · rw [if_neg hp] at h1
      have h2 := of_decide_eq_true h1
      obtain ⟨m, hm⟩ : ∃ m : Nat, (j : Int) - p = (m : Int) := ⟨(j - p).toNat, by omega⟩
      have hml : m < l.length := by omega
      rw [hm, w64 (x := (m : Int)) (by omega) (by omega), rdS_at hml] at h2
      have h3 := (may_get h m hml).2
      unfold demB at h3
      rw [if_neg (by omega), if_pos (by omega)] at h3
      have h4 := of_decide_eq_true h3
      rw [w64 (by omega) (by omega)] at h2
      omega
theorem may_nums {p c r : Int} {l : List St} (h : mayB p c r l = true) : ∀ x ∈ rows p c r l, x ≠ [] ∧ x.length ≤ 6 ∧ ∀ n ∈ x, -10000000 < n ∧ n < 10000000 := by
  have hh := may_head h
  intro x hx
  unfold rows at hx
  rcases List.mem_cons.mp hx with rfl | hx
  · refine ⟨by simp, by simp, fun n hn => ?_⟩
    simp only [List.mem_cons, List.not_mem_nil, or_false] at hn
    omega
  · obtain ⟨s, hs, rfl⟩ := List.mem_map.mp hx
    obtain ⟨j, hj, rfl⟩ := List.getElem_of_mem hs
    have h1 := (may_get h j hj).1
    have h2 := may_dem h j hj
    unfold stopB at h1
    have h3 := of_decide_eq_true h1
    refine ⟨by simp [lineOf], by simp [lineOf], fun n hn => ?_⟩
    simp only [lineOf, List.mem_cons, List.not_mem_nil, or_false] at hn
    omega
theorem may_prints {p c r : Int} {l : List St} (h : mayB p c r l = true) : Prints (rows p c r l) := by
  have hh := may_head h
  refine ⟨by unfold rows; rw [List.length_cons, List.length_map]; omega, fun x hx => ?_⟩
  have := may_nums h x hx
  exact ⟨by omega, fun n hn => by have := this.2.2 n hn; omega⟩
theorem print_loop (p c r : Int) (l : List St) (hp : Prints (rows p c r l)) (hl : l.length ≤ 10000) : ∀ (d i : Nat), i + d = l.length →
    Ev (fun k => inst_Print.l0 k ([p, c, r] :: (l.take i).map lineOf) l (l.length : Int) (i : Int)) (textP (rows p c r l), 0) := by
  intro d
  induction d with
  | zero =>
    intro i hi
    rw [List.take_of_length_le (by omega)]
    refine Ev.step (f := fun _ => some _) (fun k => ?_) (Ev.now _)
    simp only [inst_Print.l0]; rw [if_neg (by omega)]
    have := print_out hp
    unfold rows at this
    rw [this]; rfl
  | succ d ih =>
    intro i hi
    have hlt : i < l.length := by omega
    have h1 : (i : Int) < (l.length : Int) := by omega
    have h2 : (0 : Int) ≤ (i : Int) := by omega
    have h3 : wrap64 ((i : Int) + 1) = ((i + 1 : Nat) : Int) := w_next hlt (by omega)
    have hx : ([p, c, r] :: (l.take i).map lineOf) ++ [lineOf l[i]] = [p, c, r] :: (l.take (i + 1)).map lineOf := by rw [List.take_succ_eq_append_getElem hlt, List.map_append]; rfl
    have hb : ([p, c, r] :: (l.take i).map lineOf).length < 5864062014805 := by rw [List.length_cons, List.length_map, List.length_take]; omega
    refine Ev.step (f := fun k => inst_Print.l0 k ([p, c, r] :: (l.take (i + 1)).map lineOf) l (l.length : Int) ((i + 1 : Nat) : Int)) (fun k => ?_) (ih (i + 1) (by omega))
    simp only [inst_Print.l0]
    rw [if_pos h1, if_pos h2, if_pos h1, rdS_at hlt]
    simp only [inst_line.f, Option.bind_some]
    rw [if_pos hb, h3, ← hx]
    rfl
theorem print_ev (p c r : Int) (l : List St) : Ev (fun k => inst_Print.f k p c r l) (printOut p c r l) := by
  refine Ev.bind (may_ev p c r l) ?_
  unfold printOut
  cases h : mayB p c r l with
  | true =>
    simp only [if_true]
    have := print_loop p c r l (may_prints h) (by have := may_head h; omega) l.length 0 (by omega)
    exact this
  | false =>
    simp only [Bool.false_eq_true, if_false]
    exact Ev.now _
end Go.Proofs.YtifekgemngfidaaDoor.Inst
