import Derived.Test.YtifekgemngfidaaDoorScanOut
import Derived.Test.YtifekgemngfidaaDoorPAx12
import Derived.Test.YtifekgemngfidaaDoorPAx10
import Derived.Test.YtifekgemngfidaaDoorPAx11
/-! What the references of the chapter answer, by the spec on lists. -/
namespace Go.Proofs.YtifekgemngfidaaDoor.Scan
open Go.RowKit Go.Proofs.YtifekgemngfidaaDoorW.PrintWords Go.Proofs.YtifekgemngfidaaDoorW.PrintLast Go.Proofs.YtifekgemngfidaaDoor.PA
set_option linter.unusedVariables false
def wordRes (neg : Bool) (o : Option Int) : Int × Bool := match o with | some m => (if neg = true then -m else m, true) | none => (0, false)
theorem pow12 (i : Nat) (h : i ≤ 12) : (10 : Int) ^ i ≤ 1000000000000 := by
  have hk : ∀ k : Nat, k < 13 → (10 : Int) ^ k ≤ 1000000000000 := by decide
  exact hk i (by omega)
theorem word_loop (t : List Int) (hb : Bytes t) (hl : t.length ≤ 12) (neg : Bool) : ∀ (d i : Nat) (n : Int), i + d = t.length → 0 ≤ n → n < 10 ^ i →
    Ev (fun k => haulierref04_word.l0 k t neg n (i : Int)) (wordRes neg (digs n (t.drop i))) := by
  intro d
  induction d with
  | zero =>
    intro i n hi h0 h1
    have := pow12 i (by omega)
    refine Ev.step (f := fun _ => some _) (fun k => ?_) (Ev.now _)
    rw [List.drop_eq_nil_of_le (by omega)]
    simp only [haulierref04_word.l0, digs, wordRes]
    rw [if_neg (by omega)]
    cases neg with
    | true => simp only [if_true]; rw [wrapS (by omega) (by omega)]
    | false => simp
  | succ d ih =>
    intro i n hi h0 h1
    have hlt : i < t.length := by omega
    have hc := hb t[i] (List.getElem_mem hlt)
    have hp := pow12 i (by omega)
    rw [drop_at hlt]
    simp only [digs]
    by_cases hd : 48 ≤ t[i] ∧ t[i] ≤ 57
    · rw [if_pos hd]
      have h := ih (i + 1) (10 * n + (t[i] - 48)) (by omega) (by omega) (by rw [Int.pow_succ]; omega)
      refine Ev.step (f := fun k => haulierref04_word.l0 k t neg (10 * n + (t[i] - 48)) ((i + 1 : Nat) : Int)) (fun k => ?_) h
      simp only [haulierref04_word.l0]
      rw [if_pos (by omega), if_pos (by omega), rd_at hlt, if_neg (by omega), if_neg (by omega)]
      have e1 : wrap64 (10 * n) = 10 * n := wrapS (by omega) (by omega)
      have e2 : (t[i] - 48) % 256 = t[i] - 48 := by omega
      have e3 : wrap64 (10 * n + (t[i] - 48)) = 10 * n + (t[i] - 48) := wrapS (by omega) (by omega)
      have e4 : wrap64 ((i : Int) + 1) = ((i + 1 : Nat) : Int) := by rw [wrapS (by omega) (by omega)]; omega
      rw [e1, e2, e3, e4]
    · rw [if_neg hd]
      refine Ev.step (f := fun _ => some _) (fun k => ?_) (Ev.now _)
      simp only [haulierref04_word.l0]
      rw [if_pos (by omega), if_pos (by omega), rd_at hlt]
      by_cases h48 : t[i] < 48
      · rw [if_pos h48]; rfl
      · rw [if_neg h48, if_pos (by omega)]; rfl
theorem word_core (t : List Int) (hb : Bytes t) (neg : Bool) : Ev (fun k => haulierref04_word.j1 k t neg) (wordRes neg (core t)) := by
  by_cases h1 : t.length < 1
  · refine Ev.step (f := fun k => haulierref04_word.j2 k t neg true) (fun k => ?_) (Ev.step (f := fun _ => some (0, false)) (fun k => ?_) ?_)
    · simp only [haulierref04_word.j1]; rw [if_pos (by omega)]
    · simp only [haulierref04_word.j2, if_true]
    · have : core t = none := by unfold core; rw [if_pos (.inl h1)]
      rw [this]; exact Ev.now _
  · by_cases h2 : 12 < t.length
    · refine Ev.step (f := fun k => haulierref04_word.j2 k t neg true) (fun k => ?_) (Ev.step (f := fun _ => some (0, false)) (fun k => ?_) ?_)
      · simp only [haulierref04_word.j1]; rw [if_neg (by omega)]
        rw [show decide ((t.length : Int) > 12) = true from decide_eq_true (by omega)]
      · simp only [haulierref04_word.j2, if_true]
      · have : core t = none := by unfold core; rw [if_pos (.inr h2)]
        rw [this]; exact Ev.now _
    · have hc : core t = digs 0 t := by unfold core; rw [if_neg (by omega)]
      rw [hc]
      refine Ev.step (f := fun k => haulierref04_word.j2 k t neg false) (fun k => ?_) (Ev.step (f := fun k => haulierref04_word.l0 k t neg 0 ((0 : Nat) : Int)) (fun k => ?_) ?_)
      · simp only [haulierref04_word.j1]; rw [if_neg (by omega)]
        rw [show decide ((t.length : Int) > 12) = false from decide_eq_false (by omega)]
      · simp [haulierref04_word.j2]
      · exact word_loop t hb (by omega) neg t.length 0 0 (by omega) (by omega) (by simp)
def wordOut (o : Option Int) : Int × Bool := match o with | some m => (m, true) | none => (0, false)
theorem word_ev (w : List Int) (hb : Bytes w) : Ev (fun k => haulierref04_word.f k w) (wordOut (word w)) := by
  cases w with
  | nil =>
    have h := word_core [] hb false
    refine Ev.congr (f := fun k => haulierref04_word.j0 k [] false) (fun k => ?_) (Ev.step (f := fun k => haulierref04_word.j1 k [] false) (fun k => ?_) ?_)
    · simp [haulierref04_word.f]
    · simp [haulierref04_word.j0]
    · simpa [word, wordOut, wordRes, core] using h
  | cons c t =>
    have e : rd (c :: t) 0 = c := rfl
    by_cases hc : c = 45
    · have h := word_core t (fun x hx => hb x (by simp [hx])) true
      refine Ev.congr (f := fun k => haulierref04_word.j0 k (c :: t) true) (fun k => ?_) (Ev.step (f := fun k => haulierref04_word.j1 k t true) (fun k => ?_) ?_)
      · simp only [haulierref04_word.f, List.length_cons]; rw [if_pos (by omega), if_pos (by omega), e, hc]; rfl
      · simp only [haulierref04_word.j0, if_true, List.length_cons, List.drop_succ_cons, List.drop_zero]; rw [if_pos (by omega)]
      · subst hc
        have : wordOut (word (45 :: t)) = wordRes true (core t) := by
          simp only [word, List.head?_cons, if_true, List.tail_cons, wordOut, wordRes]
          cases core t <;> rfl
        rw [this]; exact h
    · have h := word_core (c :: t) hb false
      refine Ev.congr (f := fun k => haulierref04_word.j0 k (c :: t) false) (fun k => ?_) (Ev.step (f := fun k => haulierref04_word.j1 k (c :: t) false) (fun k => ?_) ?_)
      · simp only [haulierref04_word.f, List.length_cons]; rw [if_pos (by omega), if_pos (by omega), e, show (c == 45) = false from beq_eq_false_iff_ne.mpr hc]
      · simp [haulierref04_word.j0]
      · have : wordOut (word (c :: t)) = wordRes false (core (c :: t)) := by
          simp only [word, List.head?_cons, Option.some.injEq, hc, if_false, wordOut, wordRes]
          cases core (c :: t) <;> simp
        rw [this]; exact h

def lineOut (o : Option (List Int)) : List Int × Bool := match o with | some r => (r, true) | none => ([], false)
/-- What the word so far does at a place where it ends. -/
theorem flush_ev (b w acc : List Int) (i : Int) (hw : Bytes w) (hacc : acc.length ≤ 10000) (end_ : Bool) (rest : Option (List Int) → List Int × Bool) (hnone : rest none = ([], false))
    (hgo : ∀ a w', flush w acc = some a → w' = [] → Ev (fun k => if end_ = true then some (a, true) else haulierref04_line.l0 k b a w' (wrap64 (i + 1))) (rest (some a))) :
    Ev (fun k => haulierref04_line.j2 k b acc w i end_ false) (rest (flush w acc)) := by
  cases w with
  | nil =>
    have hf : flush [] acc = some acc := by simp [flush]
    rw [hf]
    refine Ev.step (f := fun k => if end_ = true then some (acc, true) else haulierref04_line.l0 k b acc [] (wrap64 (i + 1))) (fun k => ?_) (hgo acc [] hf rfl)
    simp [haulierref04_line.j2]
  | cons c t =>
    have hwd := word_ev (c :: t) hw
    refine Ev.step (f := fun k => (haulierref04_word.f k (c :: t)).bind fun bt => (if bt.2 = true then (if acc.length < 17592186044416 then ((some (acc ++ [bt.1] : List Int)).bind fun y => (if end_ = true then (some (y, true)) else (haulierref04_line.l0 k b y ([] : List Int) (wrap64 (i + 1))))) else (none)) else (some (([] : List Int), false)))) (fun k => ?_) ?_
    · simp only [haulierref04_line.j2]; rw [if_neg (by decide), if_pos (by simp only [List.length_cons]; omega)]
    · refine Ev.bind hwd ?_
      cases hx : word (c :: t) with
      | none =>
        have hf : flush (c :: t) acc = none := by simp [flush, hx]
        rw [hf, hnone]
        simp only [wordOut]
        refine Ev.congr (f := fun _ => some ([], false)) (fun k => ?_) (Ev.now _)
        simp
      | some n =>
        have hf : flush (c :: t) acc = some (acc ++ [n]) := by simp [flush, hx]
        rw [hf]
        refine Ev.congr (fun k => ?_) (hgo (acc ++ [n]) [] hf rfl)
        simp only [wordOut, if_true, Option.bind_some]
        rw [if_pos (by omega)]
theorem line_ev (b : List Int) (hb : Bytes b) (hl : b.length ≤ 5000) : ∀ (d i : Nat) (w acc : List Int), i + d = b.length → Bytes w → w.length ≤ i → acc.length ≤ i →
    Ev (fun k => haulierref04_line.l0 k b acc w (i : Int)) (lineOut (lineS w acc (b.drop i))) := by
  intro d
  induction d with
  | zero =>
    intro i w acc hi hw hwl hacc
    rw [List.drop_eq_nil_of_le (by omega)]
    refine Ev.step (f := fun k => haulierref04_line.j1 k b acc w (i : Int) true) (fun k => ?_) (Ev.step (f := fun k => haulierref04_line.j2 k b acc w (i : Int) true false) (fun k => ?_) ?_)
    · simp only [haulierref04_line.l0]; rw [if_pos (by omega), if_pos (by omega)]
    · simp [haulierref04_line.j1]
    · simp only [lineS]
      exact flush_ev b w acc i hw (by omega) true lineOut rfl (fun a w' ha hw' => by simp only [if_true, lineOut]; exact Ev.now _)
  | succ d ih =>
    intro i w acc hi hw hwl hacc
    have hlt : i < b.length := by omega
    have hc := hb b[i] (List.getElem_mem hlt)
    rw [drop_at hlt]
    have e4 : wrap64 ((i : Int) + 1) = ((i + 1 : Nat) : Int) := by rw [wrapS (by omega) (by omega)]; omega
    simp only [lineS]
    by_cases h35 : b[i] = 35
    · rw [if_pos h35]
      refine Ev.step (f := fun k => haulierref04_line.j1 k b acc w (i : Int) true) (fun k => ?_) (Ev.step (f := fun k => haulierref04_line.j2 k b acc w (i : Int) true false) (fun k => ?_) ?_)
      · simp only [haulierref04_line.l0]; rw [if_pos (by omega), if_neg (by omega), if_pos (by omega), if_pos (by omega), rd_at hlt, h35]; rfl
      · simp [haulierref04_line.j1]
      · exact flush_ev b w acc i hw (by omega) true lineOut rfl (fun a w' ha hw' => by simp only [if_true, lineOut]; exact Ev.now _)
    · rw [if_neg h35]
      have st1 : ∀ k, haulierref04_line.l0 (k + 1) b acc w (i : Int) = haulierref04_line.j1 k b acc w (i : Int) false := fun k => by
        simp only [haulierref04_line.l0]; rw [if_pos (by omega), if_neg (by omega), if_pos (by omega), if_pos (by omega), rd_at hlt, show (b[i] == 35) = false from beq_eq_false_iff_ne.mpr h35]
      refine Ev.step st1 ?_
      by_cases h32 : b[i] = 32
      · rw [if_pos h32]
        refine Ev.step (f := fun k => haulierref04_line.j2 k b acc w (i : Int) false false) (fun k => ?_) ?_
        · simp only [haulierref04_line.j1]; rw [if_neg (by decide), if_pos (by omega), if_pos (by omega), rd_at hlt, h32]; rfl
        · refine flush_ev b w acc i hw (by omega) false (fun o => lineOut (o.bind fun a => lineS [] a (b.drop (i + 1)))) rfl (fun a w' ha hw' => ?_)
          subst hw'
          simp only [Bool.false_eq_true, if_false, Option.bind_some]
          rw [e4]
          refine ih (i + 1) [] a (by omega) (fun x hx => by simp at hx) (by simp) ?_
          unfold flush at ha
          by_cases hw0 : w = []
          · rw [if_pos hw0] at ha; injection ha with ha; subst ha; omega
          · rw [if_neg hw0] at ha
            cases hwd : word w with
            | none => rw [hwd] at ha; simp at ha
            | some n => rw [hwd] at ha; simp at ha; subst ha; simp; omega
      · rw [if_neg h32]
        refine Ev.step (f := fun k => haulierref04_line.j2 k b acc w (i : Int) false true) (fun k => ?_) (Ev.step (f := fun k => haulierref04_line.l0 k b acc (w ++ [b[i]]) ((i + 1 : Nat) : Int)) (fun k => ?_) ?_)
        · simp only [haulierref04_line.j1]; rw [if_neg (by decide), if_pos (by omega), if_pos (by omega), rd_at hlt, show (b[i] != 32) = true from bne_iff_ne.mpr h32]
        · simp only [haulierref04_line.j2, if_true]; rw [if_pos (by omega), if_pos (by omega), if_pos (by omega), rd_at hlt, e4]
        · exact ih (i + 1) (w ++ [b[i]]) acc (by omega) (hw.snoc hc) (by simp; omega) (by omega)
theorem line_all (b : List Int) (hb : Bytes b) (hl : b.length ≤ 5000) : Ev (fun k => haulierref04_line.f k b) (lineOut (lineF b)) := by
  have := line_ev b hb hl b.length 0 [] [] (by omega) (fun x hx => by simp at hx) (by simp) (by simp)
  simpa [haulierref04_line.f, lineF] using this

/-- A text's lines, the first one begun. -/
def splitC (cur r : List Int) : List (List Int) := match split r with | [] => [cur] | h :: t => (cur ++ h) :: t
theorem splitC_nil (r : List Int) : splitC [] r = split r := by
  unfold splitC; cases h : split r with
  | nil => exact absurd h (split_ne r)
  | cons x y => simp
theorem splitC_ten (cur t : List Int) : splitC cur (10 :: t) = cur :: split t := by simp [splitC, split]
theorem splitC_cons {c : Int} (h : c ≠ 10) (cur t : List Int) : splitC cur (c :: t) = splitC (cur ++ [c]) t := by
  unfold splitC; simp only [split, if_neg h]
  cases h : split t with
  | nil => exact absurd h (split_ne t)
  | cons x y => simp
theorem Lines_line (b : List Int) (acc : List (List Int)) (cur : List Int) (i : Int) (hcur : Bytes cur) (hl : cur.length ≤ 5000) (hacc : acc.length ≤ 10000) (rest : Option (List (List Int)))
    (hgo : ∀ a, (∃ l, lineF cur = some l ∧ a = if l = [] then acc else acc ++ [l]) → Ev (fun k => haulierref04_Lines.l0 k b a [] (wrap64 (i + 1))) (textOut (rest.map fun x => a ++ x))) :
    Ev (fun k => haulierref04_Lines.j1 k b acc cur i false) (textOut ((lineF cur).bind fun l => (rest.map fun x => if l = [] then x else l :: x).map fun x => acc ++ x)) := by
  refine Ev.step (f := fun k => (haulierref04_line.f k cur).bind fun bt => (if bt.2 = true then (if (bt.1.length : Int) > 0 then (if acc.length < 5864062014805 then (haulierref04_Lines.l0 k b (acc ++ [bt.1]) ([] : List Int) (wrap64 (i + 1))) else (none)) else (haulierref04_Lines.l0 k b acc ([] : List Int) (wrap64 (i + 1)))) else (some (([] : List (List Int)), 2)))) (fun k => ?_) ?_
  · simp only [haulierref04_Lines.j1]; rw [if_neg (by decide)]
  · refine Ev.bind (line_all cur hcur hl) ?_
    cases hx : lineF cur with
    | none =>
      refine Ev.congr (f := fun _ => some ([], 2)) (fun k => ?_) (Ev.now _)
      simp [lineOut]
    | some l =>
      have h := hgo _ ⟨l, hx, rfl⟩
      by_cases h0 : l = []
      · subst h0
        simp only [if_true] at h
        refine Ev.congr (f := fun k => haulierref04_Lines.l0 k b acc [] (wrap64 (i + 1))) (fun k => ?_) ?_
        · simp [lineOut]
        · have e : ((some ([] : List Int)).bind fun l => (rest.map fun x => if l = [] then x else l :: x).map fun x => acc ++ x) = rest.map fun x => acc ++ x := by cases rest <;> simp
          rw [e]; exact h
      · rw [if_neg h0] at h
        have hp := List.length_pos_iff.mpr h0
        refine Ev.congr (f := fun k => haulierref04_Lines.l0 k b (acc ++ [l]) [] (wrap64 (i + 1))) (fun k => ?_) ?_
        · have e : lineOut (some l) = (l, true) := rfl
          rw [e, if_pos rfl, if_pos (show ((l.length : Int) > 0) by omega), if_pos (by omega)]
        · have e : ((some l).bind fun l => (rest.map fun x => if l = [] then x else l :: x).map fun x => acc ++ x) = rest.map fun x => (acc ++ [l]) ++ x := by
            simp only [Option.bind_some, Option.map_map]
            congr 1; funext x; simp [h0]
          rw [e]; exact h
theorem Lines_ev (b : List Int) (hb : Bytes b) (hl : b.length ≤ 4096) : ∀ (d i : Nat) (cur : List Int) (acc : List (List Int)), i + d = b.length → Bytes cur → cur.length ≤ i → acc.length ≤ i →
    Ev (fun k => haulierref04_Lines.l0 k b acc cur (i : Int)) (textOut ((runL (splitC cur (b.drop i))).map fun x => acc ++ x)) := by
  intro d
  induction d with
  | zero =>
    intro i cur acc hi hcur hcl hacc
    rw [List.drop_eq_nil_of_le (by omega)]
    refine Ev.step (f := fun k => haulierref04_Lines.j1 k b acc cur (i : Int) false) (fun k => ?_) ?_
    · simp only [haulierref04_Lines.l0]; rw [if_pos (by omega), if_neg (by omega)]
    · have h := Lines_line b acc cur (i : Int) hcur (by omega) (by omega) (some []) (fun a _ => by
        refine Ev.step (f := fun _ => some (a, 0)) (fun k => ?_) ?_
        · simp only [haulierref04_Lines.l0]; rw [wrapS (by omega) (by omega), if_neg (by omega)]
        · simp only [Option.map_some, List.append_nil, textOut]; exact Ev.now _)
      have e : runL (splitC cur []) = (lineF cur).bind fun l => (some []).map fun x => if l = [] then x else l :: x := by simp [splitC, split, runL]
      rw [e]
      have e2 : ∀ o : Option (List Int), (o.bind fun l => ((some [] : Option (List (List Int))).map fun x => if l = [] then x else l :: x).map fun x => acc ++ x) = (o.bind fun l => (some []).map fun x => if l = [] then x else l :: x).map fun x => acc ++ x := fun o => by cases o <;> rfl
      rw [← e2]; exact h
  | succ d ih =>
    intro i cur acc hi hcur hcl hacc
    have hlt : i < b.length := by omega
    have hc := hb b[i] (List.getElem_mem hlt)
    have e4 : wrap64 ((i : Int) + 1) = ((i + 1 : Nat) : Int) := by rw [wrapS (by omega) (by omega)]; omega
    rw [drop_at hlt]
    by_cases h10 : b[i] = 10
    · rw [h10, splitC_ten, runL]
      refine Ev.step (f := fun k => haulierref04_Lines.j1 k b acc cur (i : Int) false) (fun k => ?_) ?_
      · simp only [haulierref04_Lines.l0]; rw [if_pos (by omega), if_pos (by omega), if_pos (by omega), rd_at hlt, h10]; rfl
      · have h := Lines_line b acc cur (i : Int) hcur (by omega) (by omega) (runL (split (b.drop (i + 1)))) (fun a ⟨l, _, ha⟩ => by
          rw [e4, ← splitC_nil]
          exact ih (i + 1) [] a (by omega) (fun x hx => by simp at hx) (by simp) (by rw [ha]; split <;> first | omega | (simp; omega)))
        have e2 : ∀ o : Option (List Int), (o.bind fun l => ((runL (split (b.drop (i + 1)))).map fun x => if l = [] then x else l :: x).map fun x => acc ++ x) = (o.bind fun l => (runL (split (b.drop (i + 1)))).map fun x => if l = [] then x else l :: x).map fun x => acc ++ x := fun o => by cases o <;> rfl
        rw [← e2]; exact h
    · rw [splitC_cons h10]
      refine Ev.step (f := fun k => haulierref04_Lines.j1 k b acc cur (i : Int) true) (fun k => ?_) (Ev.step (f := fun k => haulierref04_Lines.l0 k b acc (cur ++ [b[i]]) ((i + 1 : Nat) : Int)) (fun k => ?_) ?_)
      · simp only [haulierref04_Lines.l0]; rw [if_pos (by omega), if_pos (by omega), if_pos (by omega), rd_at hlt, show (b[i] != 10) = true from bne_iff_ne.mpr h10]
      · simp only [haulierref04_Lines.j1, if_true]; rw [if_pos (by omega), if_pos (by omega), if_pos (by omega), rd_at hlt, e4]
      · exact ih (i + 1) (cur ++ [b[i]]) acc (by omega) (hcur.snoc hc) (by simp; omega) (by omega)
theorem Lines_all (b : List Int) (hb : Bytes b) : Ev (fun k => haulierref04_Lines.f k b) (linesOut b) := by
  unfold linesOut
  by_cases h : (b.length : Int) > 4096
  · rw [if_pos h]
    refine Ev.congr (f := fun _ => some ([], 6)) (fun k => ?_) (Ev.now _)
    simp only [haulierref04_Lines.f]; rw [if_pos h]
  · rw [if_neg h]
    have := Lines_ev b hb (by omega) b.length 0 [] [] (by omega) (fun x hx => by simp at hx) (by simp) (by simp)
    refine Ev.congr (f := fun k => haulierref04_Lines.l0 k b [] [] ((0 : Nat) : Int)) (fun k => ?_) ?_
    · simp only [haulierref04_Lines.f]; rw [if_neg h]; rfl
    · simpa [textF, splitC_nil] using this
end Go.Proofs.YtifekgemngfidaaDoor.Scan
