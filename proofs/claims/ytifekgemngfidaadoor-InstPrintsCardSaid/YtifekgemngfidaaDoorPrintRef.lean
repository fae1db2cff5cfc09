import Derived.Test.YtifekgemngfidaaDoorScanOut
import Derived.Test.YtifekgemngfidaaDoorPrintLaw
import Derived.Test.YtifekgemngfidaaDoorPAx17
/-! What the reference prints, by the spec on lists. -/
namespace Go.Proofs.YtifekgemngfidaaDoor.Scan
open Go.RowKit Go.Proofs.YtifekgemngfidaaDoorW.PrintWords Go.Proofs.YtifekgemngfidaaDoorW.PrintLast Go.Proofs.YtifekgemngfidaaDoor.PA
set_option linter.unusedVariables false
theorem bytesOf_app (a b : ByteArray) : bytesOf (a ++ b) = bytesOf a ++ bytesOf b := by
  unfold bytesOf
  rw [ByteArray.data_append, Array.toList_append, List.map_append]
theorem bytesOf_one {c : Int} (h0 : 0 ≤ c) (h1 : c < 256) : bytesOf (strOfNums [c]) = [c] := by
  unfold bytesOf strOfNums
  simp only [List.map_cons, List.map_nil, List.cons.injEq, and_true]
  rw [UInt8.toNat_ofNat']
  omega
theorem strOfNums_one (c : Int) : (strOfNums [c]).size = 1 := rfl
/-- The digits that the reference puts ahead of what it has. -/
def upI (x : Int) : List Int := if x = 0 then [] else decI x.natAbs
theorem tmod_neg {x : Int} (h : x < 0) : Int.tmod x 10 = -((x.natAbs % 10 : Nat) : Int) := by
  obtain ⟨u, rfl⟩ : ∃ u : Nat, x = -(u : Int) := ⟨x.natAbs, by omega⟩
  rw [Int.neg_tmod, Int.natAbs_neg, Int.natAbs_natCast]
  rfl
theorem tmod_pos {x : Int} (h : 0 ≤ x) : Int.tmod x 10 = ((x.natAbs % 10 : Nat) : Int) := by
  obtain ⟨u, rfl⟩ : ∃ u : Nat, x = (u : Int) := ⟨x.natAbs, by omega⟩
  rw [Int.natAbs_natCast]
  rfl
theorem tdiv_abs (x : Int) : (Int.tdiv x 10).natAbs = x.natAbs / 10 := by rw [Int.natAbs_tdiv]; rfl
theorem tdiv_lo (x : Int) : -(x.natAbs : Int) ≤ Int.tdiv x 10 ∧ Int.tdiv x 10 ≤ x.natAbs := by
  have := tdiv_abs x; omega
theorem upI_step {x : Int} (h : x ≠ 0) (d : Int) (hd : d = 48 + ((x.natAbs % 10 : Nat) : Int)) (s : List Int) : upI (Int.tdiv x 10) ++ (d :: s) = upI x ++ s := by
  subst hd
  unfold upI
  rw [if_neg h]
  have ha := tdiv_abs x
  by_cases h10 : x.natAbs < 10
  · rw [if_pos (by omega), decI_small h10, Nat.mod_eq_of_lt h10]; rfl
  · rw [if_neg (by omega), ha, decI_big h10]; simp
theorem digits_loop (mi : Bool) : ∀ (n : Nat) (x : Int) (s : ByteArray), x.natAbs < n → x.natAbs ≤ 9223372036854775808 → -9223372036854775808 ≤ x → x ≤ 9223372036854775807 → s.size + (upI x).length ≤ 1000 →
    ∃ r, Ev (fun k => haulierref04_digits.l0 k x s mi) r ∧ bytesOf r = (if mi = true then [45] else []) ++ (upI x ++ bytesOf s)
  | 0, x, s, h, _, _, _, _ => absurd h (by omega)
  | n + 1, x, s, h, ha, hlo, hhi, hs => by
    by_cases h0 : x = 0
    · subst h0
      cases mi with
      | true =>
        refine ⟨(⟨#[45]⟩ : ByteArray) ++ s, Ev.step (f := fun _ => some _) (fun k => ?_) (Ev.now _), by rw [bytesOf_app]; simp [upI, bytesOf]⟩
        simp only [haulierref04_digits.l0]
        rw [if_pos trivial, if_pos trivial, if_pos (by omega)]
      | false =>
        refine ⟨s, Ev.step (f := fun _ => some _) (fun k => ?_) (Ev.now _), by simp [upI]⟩
        simp only [haulierref04_digits.l0]
        rw [if_pos trivial, if_neg (by decide)]
    · have hd := tdiv_abs x
      have hlo2 := tdiv_lo x
      have hup := upI_step h0 (48 + ((x.natAbs % 10 : Nat) : Int)) rfl (bytesOf s)
      have hlen := congrArg List.length hup
      simp only [List.length_append, List.length_cons] at hlen
      have hb := bytesOf_length s
      have hone := bytesOf_one (c := 48 + ((x.natAbs % 10 : Nat) : Int)) (by omega) (by omega)
      obtain ⟨r, hr, e⟩ := digits_loop mi n (Int.tdiv x 10) (strOfNums [48 + ((x.natAbs % 10 : Nat) : Int)] ++ s) (by omega) (by omega) (by omega) (by omega)
        (by rw [← bytesOf_length, bytesOf_app, hone, List.length_append]; simp only [List.length_cons, List.length_nil]; omega)
      refine ⟨r, Ev.step (f := fun k => haulierref04_digits.l0 k (Int.tdiv x 10) (strOfNums [48 + ((x.natAbs % 10 : Nat) : Int)] ++ s) mi) (fun k => ?_) hr, by rw [e, bytesOf_app, hone, List.singleton_append, hup]⟩
      simp only [haulierref04_digits.l0]
      rw [if_neg h0]
      have hm : x.natAbs % 10 < 10 := Nat.mod_lt _ (by decide)
      have hw : wrap64 (Int.tdiv x 10) = Int.tdiv x 10 := wrapS (by omega) (by omega)
      by_cases hn : x < 0
      · have e1 := tmod_neg hn
        generalize x.natAbs % 10 = q at *
        by_cases hq : q = 0
        · rw [if_neg (by omega)]
          rw [show wrap64 (48 + Int.tmod x 10) % 256 = 48 + (q : Int) by rw [e1, wrapS (by omega) (by omega)]; omega]
          rw [Option.bind_some, if_pos (by rw [strOfNums_one]; omega), hw]
        · rw [if_pos (by omega)]
          rw [show wrap64 (48 + wrap64 (-Int.tmod x 10)) % 256 = 48 + (q : Int) by rw [e1, wrapS (x := - -(q : Int)) (by omega) (by omega), wrapS (by omega) (by omega)]; omega]
          rw [Option.bind_some, if_pos (by rw [strOfNums_one]; omega), hw]
      · have e1 := tmod_pos (x := x) (by omega)
        generalize x.natAbs % 10 = q at *
        rw [if_neg (by omega)]
        rw [show wrap64 (48 + Int.tmod x 10) % 256 = 48 + (q : Int) by rw [e1, wrapS (by omega) (by omega)]; omega]
        rw [Option.bind_some, if_pos (by rw [strOfNums_one]; omega), hw]
/-- A number's numeral, in the reference. -/
theorem digits_ev {n : Int} (h0 : -9223372036854775808 ≤ n) (h1 : n ≤ 9223372036854775807) : ∃ r, Ev (fun k => haulierref04_digits.f k n) r ∧ bytesOf r = itoaI n := by
  by_cases hz : n = 0
  · subst hz
    refine ⟨⟨#[48]⟩, Ev.congr (f := fun _ => some _) (fun k => ?_) (Ev.now _), by rw [itoaI_pre]; simp [pre, decI_small, bytesOf]⟩
    simp only [haulierref04_digits.f]; rw [if_pos trivial]
  · have hl : (upI n).length ≤ 1000 := by
      unfold upI; rw [if_neg hz]
      have := decI_len 18 n.natAbs (by omega); omega
    obtain ⟨r, hr, e⟩ := digits_loop (decide (n < 0)) (n.natAbs + 1) n (⟨#[]⟩ : ByteArray) (by omega) (by omega) h0 h1 (by rw [show (⟨#[]⟩ : ByteArray).size = 0 from rfl]; omega)
    refine ⟨r, Ev.congr (f := fun k => haulierref04_digits.l0 k n (⟨#[]⟩ : ByteArray) (decide (n < 0))) (fun k => ?_) hr, ?_⟩
    · simp only [haulierref04_digits.f]; rw [if_neg hz]
    · rw [e, itoaI_pre, pre, upI, if_neg hz]; simp [bytesOf]
theorem take_ne {l : List Int} {j : Nat} (h0 : j ≠ 0) (h : j < l.length) : l.take j ≠ [] := by
  intro e
  have := congrArg List.length e
  rw [List.length_take, List.length_nil] at this
  omega
theorem Print_line (l : List (List Int)) (hp : Prints l) (i : Nat) (hi : i < l.length) (r : List Int) (hnext : Ev (fun k => haulierref04_Print.l0 k l (textP (l.take (i + 1))) ((i + 1 : Nat) : Int)) r) :
    ∀ (d j : Nat), j + d = l[i].length → Ev (fun k => haulierref04_Print.l1 k l (textP (l.take i) ++ sepI (l[i].take j)) (i : Int) (j : Int)) r := by
  have hlen := hp.len
  have hline := (hp.2 l[i] (List.getElem_mem hi))
  intro d
  induction d with
  | zero =>
    intro j hj
    have hle := textP_line_le hi j
    have htk : textP (l.take (i + 1)) = textP (l.take i) ++ lineP l[i] := by rw [List.take_succ_eq_append_getElem hi, textP_snoc]
    have hall : l[i].take j = l[i] := List.take_of_length_le (by omega)
    refine Ev.step (f := fun k => haulierref04_Print.l0 k l (textP (l.take (i + 1))) ((i + 1 : Nat) : Int)) (fun k => ?_) hnext
    simp only [haulierref04_Print.l1]
    have h1 := hp.1
    rw [if_pos (by omega), if_pos (by omega), rd_row_at' hi, if_neg (by omega), show wrap64 ((i : Int) + 1) = ((i + 1 : Nat) : Int) by rw [wrapS (by omega) (by omega)]; omega]
    rw [hall] at hle ⊢
    by_cases hz : l[i] = []
    · rw [if_neg (by rw [hz]; simp), htk]
      simp [hz, lineP, sepI]
    · have hpos : 0 < l[i].length := List.length_pos_iff.mpr hz
      rw [if_pos (by omega), if_pos (by rw [List.length_append]; omega), htk, lineP, if_neg hz, List.append_assoc]
  | succ d ih =>
    intro j hj
    have hlt : j < l[i].length := by omega
    have hle := textP_line_le hi j
    have hle2 := textP_line_le hi (j + 1)
    have hrange := hline.2 l[i][j] (List.getElem_mem hlt)
    obtain ⟨s, hs, es⟩ := digits_ev hrange.1 hrange.2
    have hsl : s.size ≤ 21 := by rw [← bytesOf_length, es]; exact itoaI_len hrange.1 hrange.2
    have hsn : sepI (l[i].take (j + 1)) = (if l[i].take j = [] then [] else sepI (l[i].take j) ++ [32]) ++ itoaI l[i][j] := by rw [List.take_succ_eq_append_getElem hlt, sepI_snoc]
    have ih := ih (j + 1) (by omega)
    have h1 := hp.1
    have h2 := hline.1
    have hwj : wrap64 ((j : Int) + 1) = ((j + 1 : Nat) : Int) := by rw [wrapS (by omega) (by omega)]; omega
    have hwi : (i : Int) < (l.length : Int) := Int.ofNat_lt.mpr hi
    have hwl : (j : Int) < (l[i].length : Int) := Int.ofNat_lt.mpr hlt
    have hi0 : (0 : Int) ≤ (i : Int) := Int.natCast_nonneg i
    have hj0 : (0 : Int) ≤ (j : Int) := Int.natCast_nonneg j
    clear hnext hrange hline
    have hb1 : (textP (l.take i) ++ sepI (l[i].take j)).length < 140737488355328 := by rw [List.length_append]; omega
    have hb2 : (textP (l.take i) ++ sepI (l[i].take j)).length + s.size < 140737488355328 := by rw [List.length_append]; omega
    have hb3 : ((textP (l.take i) ++ sepI (l[i].take j)) ++ [32]).length + s.size < 140737488355328 := by rw [List.length_append, List.length_append, List.length_singleton]; omega
    generalize textP (l.take i) = B at *
    clear hle hle2 hlen hsl
    by_cases h0 : j = 0
    · have hj00 : ¬ ((j : Int) > 0) := by omega
      have hbase : l[i].take j = [] := by rw [h0]; rfl
      rw [if_pos hbase, List.nil_append] at hsn
      rw [hbase] at hb1 hb2 hb3 ⊢
      have e2 : (B ++ sepI []) ++ bytesOf s = B ++ sepI (l[i].take (j + 1)) := by rw [es, hsn]; simp [sepI]
      refine Ev.step (f := fun k => (haulierref04_digits.f k l[i][j]).bind fun t => if (B ++ sepI []).length + t.size < 140737488355328 then haulierref04_Print.l1 k l ((B ++ sepI []) ++ bytesOf t) (i : Int) ((j + 1 : Nat) : Int) else none) (fun k => ?_) (Ev.bind hs ?_)
      · simp only [haulierref04_Print.l1]
        rw [if_pos hi0, if_pos hwi, rd_row_at' hi, if_pos hwl, if_neg hj00, if_pos hj0, rd_at hlt, hwj]
      · refine Ev.congr (f := fun k => haulierref04_Print.l1 k l (B ++ sepI (l[i].take (j + 1))) (i : Int) ((j + 1 : Nat) : Int)) (fun k => ?_) ih
        rw [if_pos hb2, e2]
    · have hj00 : (j : Int) > 0 := by omega
      rw [if_neg (take_ne h0 hlt)] at hsn
      have e2 : ((B ++ sepI (l[i].take j)) ++ [32]) ++ bytesOf s = B ++ sepI (l[i].take (j + 1)) := by rw [es, hsn]; simp
      refine Ev.step (f := fun k => (haulierref04_digits.f k l[i][j]).bind fun t => if ((B ++ sepI (l[i].take j)) ++ [32]).length + t.size < 140737488355328 then haulierref04_Print.l1 k l (((B ++ sepI (l[i].take j)) ++ [32]) ++ bytesOf t) (i : Int) ((j + 1 : Nat) : Int) else none) (fun k => ?_) (Ev.bind hs ?_)
      · simp only [haulierref04_Print.l1]
        rw [if_pos hi0, if_pos hwi, rd_row_at' hi, if_pos hwl, if_pos hj00, if_pos hb1, Option.bind_some, if_pos hj0, rd_at hlt, hwj]
      · refine Ev.congr (f := fun k => haulierref04_Print.l1 k l (B ++ sepI (l[i].take (j + 1))) (i : Int) ((j + 1 : Nat) : Int)) (fun k => ?_) ih
        rw [if_pos hb3, e2]
/-- What the reference prints. -/
theorem Print_ev {l : List (List Int)} (hp : Prints l) : Ev (fun k => haulierref04_Print.f k l) (textP l) := by
  have h1 := hp.1
  have h : ∀ (d i : Nat), i + d = l.length → Ev (fun k => haulierref04_Print.l0 k l (textP (l.take i)) (i : Int)) (textP l) := by
    intro d
    induction d with
    | zero =>
      intro i hi
      refine Ev.step (f := fun _ => some _) (fun k => ?_) (Ev.now _)
      simp only [haulierref04_Print.l0]
      rw [if_neg (by omega), List.take_of_length_le (by omega)]
    | succ d ih =>
      intro i hi
      have hlt : i < l.length := by omega
      have hh := Print_line l hp i hlt (textP l) (ih (i + 1) (by omega)) l[i].length 0 (by omega)
      have hl : (i : Int) < (l.length : Int) := by omega
      refine Ev.step (f := fun k => haulierref04_Print.l1 k l (textP (l.take i) ++ sepI (l[i].take 0)) (i : Int) ((0 : Nat) : Int)) (fun k => ?_) hh
      simp only [haulierref04_Print.l0]
      rw [if_pos hl]
      simp [sepI]
  have := h l.length 0 (by omega)
  simpa [haulierref04_Print.f, textP] using this
end Go.Proofs.YtifekgemngfidaaDoor.Scan
