/- What the text of lines of numbers is, on lists of bytes; and strconv.AppendInt's contract, told of rows of bytes of the call's own. -/
import Derived.Test.YtdkhajgfifaibaaDoorWWords
import Derived.Test.YtdkhajgfifaibaaDoorShelf
import Derived.Lib.ItoaLen
namespace Go.Proofs.YtdkhajgfifaibaaDoor.Scan
open Go.RowKit Go.Proofs.YtdkhajgfifaibaaDoorW.PrintWords
/-- A number's numeral. -/
def itoaI (n : Int) : List Int := (Lib.itoa n).map fun c => (c.toNat : Int)
/-- Numbers, a space between them. -/
def sepI : List Int → List Int
  | [] => []
  | n :: t => itoaI n ++ t.flatMap fun m => 32 :: itoaI m
theorem sepI_snoc (l : List Int) (n : Int) : sepI (l ++ [n]) = (if l = [] then [] else sepI l ++ [32]) ++ itoaI n := by
  cases l with
  | nil => simp [sepI]
  | cons m t => simp [sepI]
/-- A line's text. -/
def lineP (l : List Int) : List Int := if l = [] then [] else sepI l ++ [10]
/-- The text of lines. -/
def textP (l : List (List Int)) : List Int := l.flatMap lineP
theorem textP_snoc (l : List (List Int)) (x : List Int) : textP (l ++ [x]) = textP l ++ lineP x := by simp [textP]
theorem textP_take_le (l : List (List Int)) (i : Nat) : (textP (l.take i)).length ≤ (textP l).length := by
  have : textP l = textP (l.take i) ++ textP (l.drop i) := by unfold textP; rw [← List.flatMap_append, List.take_append_drop]
  rw [this, List.length_append]; omega
theorem sepI_take_le (l : List Int) (j : Nat) : (sepI (l.take j)).length ≤ (sepI l).length := by
  cases l with
  | nil => simp
  | cons n t =>
    cases j with
    | zero => simp [sepI]
    | succ j =>
      simp only [List.take_succ_cons, sepI, List.length_append]
      have : (t.flatMap fun m => 32 :: itoaI m) = ((t.take j).flatMap fun m => 32 :: itoaI m) ++ ((t.drop j).flatMap fun m => 32 :: itoaI m) := by rw [← List.flatMap_append, List.take_append_drop]
      rw [this, List.length_append]; omega
theorem textP_line_le {l : List (List Int)} {i : Nat} (h : i < l.length) (j : Nat) : (textP (l.take i)).length + (sepI (l[i].take j)).length ≤ (textP l).length := by
  have h1 := textP_take_le l (i + 1)
  rw [List.take_succ_eq_append_getElem h, textP_snoc, List.length_append] at h1
  have h2 := sepI_take_le l[i] j
  have h3 : (sepI l[i]).length ≤ (lineP l[i]).length := by
    unfold lineP
    split
    · rename_i h; rw [h]; simp [sepI]
    · simp
  omega
theorem itoaI_len {n : Int} (h0 : -9223372036854775808 ≤ n) (h1 : n ≤ 9223372036854775807) : (itoaI n).length ≤ 21 := by
  unfold itoaI; rw [List.length_map]; exact Lib.itoa_length_le n h0 h1
/-- The table of powers of ten, in memory. -/
def NumTab (w : World) : Prop := Lib.TabIs Tryd.prog w "internal/strconv.uint64pow10" .u64 Lib.pow10Tab
theorem NumTab.on {w w1 : World} (h : NumTab w) (hb : Below w.heap.size w w1) : NumTab w1 := ((Lib.tabBelow_of_tabIs h).on hb).here
theorem append_int (v : Value) (xs : List Int) (i : Int) (h0 : -9223372036854775808 ≤ i) (h1 : i ≤ 9223372036854775807) (w0 W : World) (hT : NumTab w0) (hb : Below w0.heap.size w0 W) (ho : Kd.R (Kd.int .u8) 5 W w0.heap.size (fun _ => True) v xs) (hl : xs.length + 21 ≤ 140737488355328) :
    Calls Tryd.prog 43 #[v, .int .i64 i, .int .i64 10] W fun e w' => ∃ v', e = .returned v' ∧ Kd.R (Kd.int .u8) 5 w' w0.heap.size (fun _ => True) v' (xs ++ itoaI i) ∧ Below w0.heap.size w0 w' := by
  refine (Tryd.strconv_AppendInt_10 w0.heap.size xs.length i h0 h1 v _ W (Kd.own_of_R ho) hb.size hl ((Lib.tabBelow_of_tabIs hT).on hb)).mono ?_
  rintro e w' ⟨v', rfl, hown, hB, -⟩
  refine ⟨v', rfl, ?_, hb.trans hB⟩
  refine Kd.R_of_own (h1 := fun _ => rfl) (ok := fun _ => True) ?_ (fun _ _ => trivial)
  have e1 : (xs ++ itoaI i).length = xs.length + (Lib.itoa i).length := by simp [itoaI]
  rw [e1]
  have e2 : encs (Value.int .u8) (xs ++ itoaI i) = encs (Value.int .u8) xs ++ Lib.byteCells (Lib.itoa i) := by simp [encs, itoaI, Lib.byteCells]
  rw [e2]
  exact hown
end Go.Proofs.YtdkhajgfifaibaaDoor.Scan
