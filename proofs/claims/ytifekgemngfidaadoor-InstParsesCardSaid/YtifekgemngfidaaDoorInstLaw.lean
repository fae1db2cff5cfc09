import Derived.Test.YtifekgemngfidaaDoorInstIO
import Derived.Test.YtifekgemngfidaaDoorPAx8
import Derived.Test.YtifekgemngfidaaDoorPAx7
/-! What is printed is parsed as it was; the chapter's example. -/
namespace Go.Proofs.YtifekgemngfidaaDoor.Inst
open Go.RowKit Go.Proofs.YtifekgemngfidaaDoorW.PrintWords Go.Proofs.YtifekgemngfidaaDoorW.PrintLast Go.Proofs.YtifekgemngfidaaDoor.PA
open Go.Proofs.YtifekgemngfidaaDoor.Scan (linesOut scan_out out_len textP lineP sepI Prints Num12 itoaI textF textF_textP textOut decI_len decI_small decI_big itoaI_pre decI pre)
set_option linter.unusedVariables false
theorem itoaI_len8 {n : Int} (h0 : -10000000 < n) (h1 : n < 10000000) : (itoaI n).length ≤ 8 := by
  rw [itoaI_pre, pre, List.length_append]
  have := decI_len 6 n.natAbs (by omega)
  split <;> simp <;> omega
theorem sepI_len8 : ∀ (l : List Int), (∀ n ∈ l, -10000000 < n ∧ n < 10000000) → (sepI l).length ≤ l.length * 9
  | [], _ => by simp [sepI]
  | n :: t, h => by
    have h0 := itoaI_len8 (h n (by simp)).1 (h n (by simp)).2
    have h1 : (t.flatMap fun m => 32 :: itoaI m).length ≤ t.length * 9 := by
      have ht : ∀ m ∈ t, -10000000 < m ∧ m < 10000000 := fun m hm => h m (by simp [hm])
      clear h h0
      induction t with
      | nil => simp
      | cons m t ih =>
        have := ih (fun x hx => ht x (by simp [hx]))
        have h2 := itoaI_len8 (ht m (by simp)).1 (ht m (by simp)).2
        simp only [List.flatMap_cons, List.length_append, List.length_cons]; omega
    simp only [sepI, List.length_append, List.length_cons]; omega
theorem textP_len8 : ∀ (L : List (List Int)), (∀ l ∈ L, l.length ≤ 6 ∧ ∀ n ∈ l, -10000000 < n ∧ n < 10000000) → (textP L).length ≤ L.length * 55
  | [], _ => by simp [textP]
  | l :: L, h => by
    have ih := textP_len8 L (fun x hx => h x (by simp [hx]))
    have h0 := sepI_len8 l (h l (by simp)).2
    have h1 := (h l (by simp)).1
    have e : textP (l :: L) = lineP l ++ textP L := rfl
    have h2 : (lineP l).length ≤ 55 := by
      unfold lineP; split
      · simp
      · rw [List.length_append]; simp only [List.length_cons, List.length_nil]; omega
    rw [e, List.length_append, List.length_cons, Nat.succ_mul]; omega
/-- What is printed is read. -/
theorem back_lines {p c r : Int} {l : List St} (h : mayB p c r l = true) : linesOut (textP (rows p c r l)) = (rows p c r l, 0) := by
  have hn := may_nums h
  have hh := may_head h
  have hlen := textP_len8 (rows p c r l) (fun x hx => (hn x hx).2)
  have hr : (rows p c r l).length ≤ 34 := by unfold rows; rw [List.length_cons, List.length_map]; omega
  have ht := textF_textP (rows p c r l) (fun x hx n hm => by have := (hn x hx).2.2 n hm; unfold Num12; omega)
  have hf : (rows p c r l).filter (fun x => !x.isEmpty) = rows p c r l := by
    rw [List.filter_eq_self]
    intro x hx
    have := (hn x hx).1
    cases x with
    | nil => exact absurd rfl this
    | cons => rfl
  rw [hf] at ht
  unfold linesOut
  rw [if_neg (by omega), ht]; rfl
/-- What is printed is parsed as it was. -/
theorem back {p c r : Int} {l : List St} (h : mayB p c r l = true) : parseOut (linesOut (textP (rows p c r l))) = (p, c, r, l, 0) := by
  rw [back_lines h]
  have ha : ((l.map lineOf).all fun x => x.length == 6) = true := by
    rw [List.all_eq_true]
    intro x hx
    obtain ⟨s, _, rfl⟩ := List.mem_map.mp hx
    rfl
  have hc : ([p, c, r] : List Int).length = 3 ∧ ((l.map lineOf).all fun x => x.length == 6) = true := ⟨rfl, ha⟩
  have e : (if ([p, c, r] : List Int).length = 3 ∧ ((l.map lineOf).all fun x => x.length == 6) = true then fin_ p c r ((l.map lineOf).map stopOf) else (0, 0, 0, [], 2)) = (p, c, r, l, 0) := by
    rw [if_pos hc, stop_lines]; unfold fin_; rw [if_pos h]
  exact e
/-- What is parsed without an error may be; with one it is nothing. -/
theorem parse_may (q : List (List Int) × Int) (h : (parseOut q).2.2.2.2 = 0) : mayB (parseOut q).1 (parseOut q).2.1 (parseOut q).2.2.1 (parseOut q).2.2.2.1 = true := by
  obtain ⟨L, e⟩ := q
  unfold parseOut at h ⊢
  by_cases h0 : e = 0
  · simp only [if_pos h0] at h ⊢
    cases L with
    | nil => simp at h
    | cons l rest =>
      simp only at h ⊢
      split at h
      · rename_i hc
        rw [if_pos hc]
        unfold fin_ at h ⊢
        split at h
        · rename_i hm; rw [if_pos hm]; exact hm
        · simp at h
      · simp at h
  · simp only [if_neg h0] at h
    exact absurd h h0
theorem parse_none (q : List (List Int) × Int) (h : ¬ (parseOut q).2.2.2.2 = 0) : (parseOut q).1 = 0 ∧ (parseOut q).2.2.2.1 = [] := by
  obtain ⟨L, e⟩ := q
  unfold parseOut at h ⊢
  by_cases h0 : e = 0
  · simp only [if_pos h0] at h ⊢
    cases L with
    | nil => exact ⟨rfl, rfl⟩
    | cons l rest =>
      simp only at h ⊢
      split
      · rename_i hc
        rw [if_pos hc] at h
        unfold fin_ at h ⊢
        split
        · rename_i hm; rw [if_pos hm] at h; simp at h
        · exact ⟨rfl, rfl⟩
      · exact ⟨rfl, rfl⟩
  · simp [h0]
theorem parse_len (b : List Int) : (parseOut (linesOut b)).2.2.2.1.length ≤ 10000 := by
  have hl := (out_len b).1
  generalize linesOut b = q at *
  obtain ⟨L, e⟩ := q
  unfold parseOut
  by_cases h0 : e = 0
  · simp only [if_pos h0]
    cases L with
    | nil => simp
    | cons l rest =>
      simp only [List.length_cons] at hl ⊢
      split
      · unfold fin_; split
        · simp only [List.length_map]; omega
        · simp
      · simp
  · simp only [if_neg h0]; simp
def small : List Int := [49, 32, 49, 32, 53, 10, 48, 32, 48, 32, 48, 32, 48, 32, 49, 48, 48, 32, 48, 10, 51, 32, 48, 32, 50, 32, 48, 32, 53, 48, 32, 49, 10, 48, 32, 52, 32, 45, 50, 32, 48, 32, 57, 48, 32, 49, 10]
def smallSt : List St := [⟨0, 0, 0, 0, 100, 0⟩, ⟨3, 0, 2, 0, 50, 1⟩, ⟨0, 4, -2, 0, 90, 1⟩]
theorem small_may : mayB 1 1 5 smallSt = true := by decide +kernel
theorem small_lines : linesOut small = (rows 1 1 5 smallSt, 0) := rfl
theorem small_parse : parseOut (linesOut small) = (1, 1, 5, smallSt, 0) := by
  rw [small_lines]
  have := back small_may
  rwa [back_lines small_may] at this
theorem dec100 : decI 100 = [49, 48, 48] := by rw [decI_big (by decide), show 100 / 10 = 10 from rfl, decI_big (by decide), show 10 / 10 = 1 from rfl, decI_small (by decide)]; rfl
theorem dec50 : decI 50 = [53, 48] := by rw [decI_big (by decide), show 50 / 10 = 5 from rfl, decI_small (by decide)]; rfl
theorem dec90 : decI 90 = [57, 48] := by rw [decI_big (by decide), show 90 / 10 = 9 from rfl, decI_small (by decide)]; rfl
theorem dec1 {u : Nat} (h : u < 10) : decI u = [48 + (u : Int)] := decI_small h
theorem small_text : textP (rows 1 1 5 smallSt) = small := by
  have e0 : itoaI 0 = [48] := by rw [itoaI_pre]; show pre false (decI 0) = _; rw [dec1 (by decide)]; rfl
  have e1 : itoaI 1 = [49] := by rw [itoaI_pre]; show pre false (decI 1) = _; rw [dec1 (by decide)]; rfl
  have e2 : itoaI 2 = [50] := by rw [itoaI_pre]; show pre false (decI 2) = _; rw [dec1 (by decide)]; rfl
  have e3 : itoaI 3 = [51] := by rw [itoaI_pre]; show pre false (decI 3) = _; rw [dec1 (by decide)]; rfl
  have e4 : itoaI 4 = [52] := by rw [itoaI_pre]; show pre false (decI 4) = _; rw [dec1 (by decide)]; rfl
  have e5 : itoaI 5 = [53] := by rw [itoaI_pre]; show pre false (decI 5) = _; rw [dec1 (by decide)]; rfl
  have e2' : itoaI (-2) = [45, 50] := by rw [itoaI_pre]; show pre true (decI 2) = _; rw [dec1 (by decide)]; rfl
  have e100 : itoaI 100 = [49, 48, 48] := by rw [itoaI_pre]; show pre false (decI 100) = _; rw [dec100]; rfl
  have e50 : itoaI 50 = [53, 48] := by rw [itoaI_pre]; show pre false (decI 50) = _; rw [dec50]; rfl
  have e90 : itoaI 90 = [57, 48] := by rw [itoaI_pre]; show pre false (decI 90) = _; rw [dec90]; rfl
  simp [textP, rows, smallSt, lineOf, lineP, sepI, e0, e1, e2, e3, e4, e5, e2', e100, e50, e90, small]
theorem small_print : printOut 1 1 5 smallSt = (small, 0) := by
  unfold printOut; rw [if_pos small_may, small_text]
def awakeG (a : Int × Int × Int × List St × Int) (b : List Int × Int) : Option Bool := if a.2.2.2.2 = 0 then (if b.2 = 0 then (if a.1 = 1 then (if (a.2.2.2.1.length : Int) = 3 then (if 2 < (a.2.2.2.1.length : Int) then (if ((rd_T34 a.2.2.2.1 2).f1) = 4 then ((haulierlaw05_Small.f).bind fun t => (some ((strOfNums b.1).toList == t.toList))) else none) else none) else none) else none) else none) else none
theorem awake_end : awakeG (1, 1, 5, smallSt, 0) (small, 0) = some true := by
  obtain ⟨s, hs⟩ : ∃ s, haulierlaw05_Small.f = some s := ⟨_, rfl⟩
  have e : strOfNums small = s := Option.some.inj ((show some (strOfNums small) = haulierlaw05_Small.f from rfl).trans hs)
  show (haulierlaw05_Small.f).bind (fun t => some ((strOfNums small).toList == t.toList)) = some true
  rw [hs, Option.bind_some, e, beq_self_eq_true]
theorem awake_ev : Ev (fun k => haulierlaw05_awake.f k) true := by
  refine Ev.congr (f := fun k => (inst_Parse.f k small).bind fun a => (inst_Print.f k a.1 a.2.1 a.2.2.1 a.2.2.2.1).bind fun b => awakeG a b) (fun k => rfl) ?_
  have h1 := parse_ev small
  rw [small_parse] at h1
  refine Ev.bind h1 ?_
  have h2 := print_ev 1 1 5 smallSt
  rw [small_print] at h2
  refine Ev.bind h2 ?_
  exact Ev.congr (f := fun _ => some true) (fun k => awake_end) (Ev.now _)
end Go.Proofs.YtifekgemngfidaaDoor.Inst
