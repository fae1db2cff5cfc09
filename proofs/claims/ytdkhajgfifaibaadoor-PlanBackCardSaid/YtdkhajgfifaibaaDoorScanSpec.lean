import Derived.Test.YtdkhajgfifaibaaDoorWWords
/-! What the text of lines is, on lists of bytes; and the machine that the program's line reader is. -/
namespace Go.Proofs.YtdkhajgfifaibaaDoor.Scan
open Go.Proofs.YtdkhajgfifaibaaDoorW.PrintWords
/-- The byte that comes next. -/
def nowP (b : List Int) (i : Int) : Int := if i ≥ (b.length : Int) then 10 else rd b i
/-- What line does: 0: between numbers; 3: in a number; 1: in a note; 2: at the end. -/
def mach (b : List Int) : Nat → Nat → Int → Int → Int → Bool → List Int → Option (List Int × Bool × Int)
  | 0, _, _, _, _, _, _ => none
  | k + 1, lab, i, n, d, mi, l =>
    if lab = 0 then (if nowP b i = 32 then mach b k 0 (i + 1) n d mi l else if nowP b i = 35 then mach b k 1 i n d mi l else if nowP b i = 10 then mach b k 2 i n d mi l else mach b k 3 (if nowP b i = 45 then i + 1 else i) 0 0 (nowP b i == 45) l)
    else if lab = 3 then (if (48 ≤ nowP b i ∧ nowP b i ≤ 57) ∧ d < 12 then mach b k 3 (i + 1) (10 * n + (nowP b i - 48)) (d + 1) mi l else if d = 0 ∨ (nowP b i ≠ 32 ∧ nowP b i ≠ 35 ∧ nowP b i ≠ 10) then some ([], false, i) else mach b k 0 i (if mi = true then -n else n) d mi (l ++ [if mi = true then -n else n]))
    else if lab = 1 then (if nowP b i ≠ 10 then mach b k 1 (i + 1) n d mi l else mach b k 2 i n d mi l)
    else some (l, true, i + 1)
/-- The number that digits are. -/
def digs : Int → List Int → Option Int
  | n, [] => some n
  | n, c :: t => if 48 ≤ c ∧ c ≤ 57 then digs (10 * n + (c - 48)) t else none
def core (t : List Int) : Option Int := if t.length < 1 ∨ 12 < t.length then none else digs 0 t
/-- The number that a word is. -/
def word (w : List Int) : Option Int := if w.head? = some 45 then (core w.tail).map (fun n => -n) else core w
def flush (w acc : List Int) : Option (List Int) := if w = [] then some acc else (word w).map (fun n => acc ++ [n])
def lineS (w acc : List Int) : List Int → Option (List Int)
  | [] => flush w acc
  | c :: t => if c = 35 then flush w acc else if c = 32 then (flush w acc).bind (fun a => lineS [] a t) else lineS (w ++ [c]) acc t
/-- The numbers of a line. -/
def lineF (b : List Int) : Option (List Int) := lineS [] [] b
/-- A text's lines. -/
def split : List Int → List (List Int)
  | [] => [[]]
  | c :: t => if c = 10 then [] :: split t else (match split t with | [] => [[c]] | h :: r => (c :: h) :: r)
def runL : List (List Int) → Option (List (List Int))
  | [] => some []
  | b :: bs => (lineF b).bind fun l => (runL bs).map fun r => if l = [] then r else l :: r
/-- The numbers of a text's lines. -/
def textF (b : List Int) : Option (List (List Int)) := runL (split b)
/-- Up to the line's end. -/
def upto (r : List Int) : List Int := r.takeWhile (fun c => c != 10)

theorem split_ne (t : List Int) : split t ≠ [] := by
  cases t with
  | nil => simp [split]
  | cons c t => simp only [split]; split; · simp
                · split <;> simp
theorem upto_nil : upto [] = [] := rfl
theorem upto_ten (t : List Int) : upto (10 :: t) = [] := by simp [upto]
theorem upto_cons {c : Int} (h : c ≠ 10) (t : List Int) : upto (c :: t) = c :: upto t := by simp [upto, h]
theorem split_upto (r : List Int) : split r = upto r :: (if (upto r).length < r.length then split (r.drop ((upto r).length + 1)) else []) := by
  induction r with
  | nil => simp [split, upto]
  | cons c t ih =>
    by_cases h : c = 10
    · subst h; rw [upto_ten]; simp [split]
    · rw [upto_cons h, split, if_neg h]
      rw [ih]
      simp only [List.length_cons, List.drop_succ_cons, Nat.add_lt_add_iff_right]
theorem split_no {b : List Int} (h : ∀ c ∈ b, c ≠ 10) : split b = [b] := by
  induction b with
  | nil => rfl
  | cons c t ih =>
    rw [split, if_neg (h c (by simp)), ih (fun c hc => h c (by simp [hc]))]
theorem split_mid {a b : List Int} : split (a ++ 10 :: b) = split a ++ split b := by
  induction a with
  | nil => simp [split]
  | cons c t ih =>
    by_cases h : c = 10
    · simp [split, h, ih]
    · simp only [List.cons_append, split, if_neg h, ih]
      cases hs : split t with
      | nil => exact absurd hs (split_ne t)
      | cons x y => simp
theorem runL_append (xs ys : List (List Int)) : runL (xs ++ ys) = (runL xs).bind fun a => (runL ys).map fun b => a ++ b := by
  induction xs with
  | nil => simp [runL]
  | cons x t ih =>
    simp only [List.cons_append, runL, ih]
    cases lineF x with
    | none => rfl
    | some l =>
      simp only [Option.bind_some]
      cases runL t with
      | none => rfl
      | some a =>
        simp only [Option.map_some, Option.bind_some]
        cases runL ys with
        | none => rfl
        | some c => by_cases hl : l = [] <;> simp [hl]
theorem textF_mid (a b : List Int) : textF (a ++ 10 :: b) = (textF a).bind fun x => (textF b).map fun y => x ++ y := by
  unfold textF; rw [split_mid, runL_append]
/-- One line, then the others. -/
theorem textF_step (r : List Int) : textF r = (lineF (upto r)).bind fun l => (if (upto r).length < r.length then textF (r.drop ((upto r).length + 1)) else some []).map fun x => if l = [] then x else l :: x := by
  unfold textF
  rw [split_upto, runL]
  by_cases h : (upto r).length < r.length
  · rw [if_pos h, if_pos h]
  · rw [if_neg h, if_neg h]; rfl
theorem textF_nil : textF [] = some [] := rfl

theorem digs_append (u t : List Int) : ∀ n, digs n (u ++ t) = (digs n u).bind fun m => digs m t := by
  induction u with
  | nil => intro n; rfl
  | cons c u ih =>
    intro n
    simp only [List.cons_append, digs]
    by_cases h : 48 ≤ c ∧ c ≤ 57
    · rw [if_pos h, if_pos h, ih]
    · rw [if_neg h, if_neg h]; rfl
/-- No word begins so. -/
def Dead (w : List Int) : Prop := w ≠ [] ∧ ∀ t, word (w ++ t) = none
theorem dead_line {w : List Int} (h : Dead w) (acc : List Int) : ∀ r, lineS w acc r = none := by
  intro r
  induction r generalizing w with
  | nil => have := h.2 []; simp at this; simp [lineS, flush, h.1, this]
  | cons c t ih =>
    have hw : word w = none := by have := h.2 []; simpa using this
    have hf : flush w acc = none := by simp [flush, h.1, hw]
    simp only [lineS, hf]
    by_cases h1 : c = 35
    · rw [if_pos h1]
    · rw [if_neg h1]
      by_cases h2 : c = 32
      · rw [if_pos h2]; rfl
      · rw [if_neg h2]
        exact ih ⟨by simp, fun t' => by rw [List.append_assoc]; exact h.2 _⟩
/-- A word as it is being read: its sign, and its digits. -/
def pre (mi : Bool) (u : List Int) : List Int := (if mi = true then [45] else []) ++ u
theorem word_pre {mi : Bool} {u t : List Int} (h : mi = false → (u ++ t).head? ≠ some 45) : word (pre mi u ++ t) = if mi = true then (core (u ++ t)).map (fun n => -n) else core (u ++ t) := by
  cases mi with
  | true => simp [pre, word]
  | false =>
    have h' := h rfl
    simp only [pre, Bool.false_eq_true, if_false, List.nil_append, word]
    rw [if_neg h']
theorem core_bad {u : List Int} {c : Int} {t : List Int} (h : ¬ (48 ≤ c ∧ c ≤ 57)) : core (u ++ c :: t) = none := by
  unfold core
  split
  · rfl
  · rw [digs_append]
    cases digs 0 u with
    | none => rfl
    | some m => simp [digs, h]
theorem core_long {u t : List Int} (h : 12 < u.length) : core (u ++ t) = none := by
  unfold core; rw [if_pos (by simp; omega)]
theorem dead_pre {mi : Bool} {u : List Int} {c : Int} (hc : c = 45 → mi = true ∨ u ≠ []) (hu : ∀ x ∈ u, 48 ≤ x ∧ x ≤ 57) (h : ¬ (48 ≤ c ∧ c ≤ 57) ∨ 12 ≤ u.length) : Dead (pre mi u ++ [c]) := by
  refine ⟨by simp, fun t => ?_⟩
  rw [List.append_assoc, word_pre]
  · have : core (u ++ ([c] ++ t)) = none := by
      rcases h with h | h
      · exact core_bad h
      · have := core_long (u := u ++ [c]) (t := t) (by simp; omega)
        simpa using this
    rw [this]; simp
  · intro hmi
    cases u with
    | nil =>
      simp only [List.nil_append, List.singleton_append, List.head?_cons, ne_eq, Option.some.injEq]
      intro e
      rcases hc e with h1 | h1
      · rw [hmi] at h1; cases h1
      · exact h1 rfl
    | cons x u =>
      simp only [List.cons_append, List.head?_cons, ne_eq, Option.some.injEq]
      have := hu x (by simp)
      omega
theorem word_done {mi : Bool} {u : List Int} {n : Int} (hu : ∀ x ∈ u, 48 ≤ x ∧ x ≤ 57) (h1 : 1 ≤ u.length) (h2 : u.length ≤ 12) (hn : digs 0 u = some n) : word (pre mi u) = some (if mi = true then -n else n) := by
  have e : word (pre mi u) = word (pre mi u ++ []) := by simp
  have hc : core u = some n := by unfold core; rw [if_neg (by omega)]; exact hn
  rw [e, word_pre]
  · simp only [List.append_nil, hc]; cases mi <;> simp
  · intro _
    cases u with
    | nil => simp at h1
    | cons x u => simp only [List.append_nil, List.head?_cons, ne_eq, Option.some.injEq]; have := hu x (by simp); omega
theorem word_none {mi : Bool} : word (pre mi []) = none := by cases mi <;> simp [pre, word, core]

theorem nowP_drop (b : List Int) (i : Nat) : nowP b (i : Int) = ((b.drop i).head?).getD 10 := by
  unfold nowP
  by_cases h : (i : Int) ≥ (b.length : Int)
  · rw [if_pos h, List.drop_eq_nil_of_le (by omega)]; rfl
  · rw [if_neg h]
    unfold rd
    have hi : i < b.length := by omega
    simp [List.getD, List.getElem?_eq_getElem hi, List.head?_drop]
/-- In a note: up to the end. -/
theorem mach_note (b : List Int) (n d : Int) (mi : Bool) (l : List Int) : ∀ (q : Nat) (i : Nat) (k : Nat), (upto (b.drop i)).length = q → q + 2 ≤ k → mach b k 1 (i : Int) n d mi l = some (l, true, (i : Int) + q + 1) := by
  intro q
  induction q with
  | zero =>
    intro i k hq hk
    obtain ⟨k, rfl⟩ : ∃ m, k = m + 2 := ⟨k - 2, by omega⟩
    have hn : nowP b (i : Int) = 10 := by
      rw [nowP_drop]
      cases hb : b.drop i with
      | nil => rfl
      | cons c t =>
        rw [hb] at hq
        by_cases hc : c = 10
        · simp [hc]
        · rw [upto_cons hc] at hq; simp at hq
    simp [mach, hn]
  | succ q ih =>
    intro i k hq hk
    obtain ⟨k, rfl⟩ : ∃ m, k = m + 1 := ⟨k - 1, by omega⟩
    cases hb : b.drop i with
    | nil => rw [hb] at hq; simp [upto] at hq
    | cons c t =>
      rw [hb] at hq
      have hc : c ≠ 10 := by intro h; rw [h, upto_ten] at hq; simp at hq
      rw [upto_cons hc] at hq
      have ht : b.drop (i + 1) = t := by rw [← List.drop_drop, hb]; rfl
      have hn : nowP b (i : Int) = c := by rw [nowP_drop, hb]; rfl
      have := ih (i + 1) k (by rw [ht]; simpa using hq) (by omega)
      simp only [mach, Nat.reduceEqDiff, if_false, if_true, hn]
      rw [if_pos hc]
      rw [show ((i + 1 : Nat) : Int) = (i : Int) + 1 by omega] at this
      rw [this]
      congr 3; omega
theorem upto_len (r : List Int) : (upto r).length ≤ r.length := by unfold upto; exact List.Sublist.length_le (List.takeWhile_sublist _)
/-- What the reader answers of a line: its numbers, and the place behind it; or that it is none. -/
def ends (i : Nat) (r : List Int) (o : Option (List Int)) (x : Option (List Int × Bool × Int)) : Prop :=
  match o with
  | some res => x = some (res, true, (i : Int) + (upto r).length + 1)
  | none => ∃ i', x = some ([], false, i') ∧ i' ≤ (i : Int) + r.length ∧ 0 ≤ i'
theorem ends_step {i : Nat} {c : Int} {t : List Int} {o : Option (List Int)} {x : Option (List Int × Bool × Int)} (hc : c ≠ 10) (h : ends (i + 1) t o x) : ends i (c :: t) o x := by
  unfold ends at *
  cases o with
  | some res => simp only at h ⊢; rw [h, upto_cons hc]; simp only [List.length_cons]; congr 3; omega
  | none =>
    obtain ⟨i', h1, h2, h3⟩ := h
    exact ⟨i', h1, by simp only [List.length_cons]; omega, h3⟩
def St0 (b : List Int) (i : Nat) (k : Nat) : Prop := ∀ n d mi l, ends i (b.drop i) (lineS [] l (upto (b.drop i))) (mach b k 0 (i : Int) n d mi l)
def St3 (b : List Int) (i : Nat) (k : Nat) : Prop := ∀ mi u n l, (∀ x ∈ u, 48 ≤ x ∧ x ≤ 57) → u.length ≤ 12 → digs 0 u = some n → (mi = true ∨ u ≠ []) → ends i (b.drop i) (lineS (pre mi u) l (upto (b.drop i))) (mach b k 3 (i : Int) n u.length mi l)
theorem upto_term {c : Int} {t : List Int} {w l : List Int} (h : c = 32 ∨ c = 35 ∨ c = 10) : lineS w l (upto (c :: t)) = (flush w l).bind fun a => lineS [] a (upto (c :: t)) := by
  rcases h with rfl | rfl | rfl
  · rw [upto_cons (by decide)]
    simp only [lineS, flush, if_true, Int.reduceEq, if_false]
    rfl
  · rw [upto_cons (by decide)]
    simp only [lineS, if_true]
    cases hf : flush w l with
    | none => rfl
    | some a => simp [flush]
  · rw [upto_ten]
    simp only [lineS]
    cases hf : flush w l with
    | none => rfl
    | some a => simp [flush]
theorem st3_of {b : List Int} {i k : Nat} (h0 : St0 b i k) (h3 : b.drop i ≠ [] → St3 b (i + 1) k) : St3 b i (k + 1) := by
  intro mi u n l hu hl hd hne
  have hstop : ∀ c : Int, nowP b (i : Int) = c → (c = 32 ∨ c = 35 ∨ c = 10) → (lineS (pre mi u) l (upto (b.drop i)) = (flush (pre mi u) l).bind fun a => lineS [] a (upto (b.drop i))) → ends i (b.drop i) (lineS (pre mi u) l (upto (b.drop i))) (mach b (k + 1) 3 (i : Int) n u.length mi l) := by
    intro c hc hor hline
    rw [hline, mach, if_neg (by decide), if_pos rfl, hc, if_neg (by omega)]
    have hp : pre mi u ≠ [] := by
      rcases hne with h | h
      · simp [pre, h]
      · simp [pre, h]
    cases u with
    | nil =>
      rw [if_pos (.inl rfl)]
      have hf : flush (pre mi []) l = none := by simp [flush, hp, word_none]
      rw [hf]
      exact ⟨i, rfl, by omega, by omega⟩
    | cons x u =>
      have hw := word_done (mi := mi) hu (by simp) hl hd
      have hf : flush (pre mi (x :: u)) l = some (l ++ [if mi = true then -n else n]) := by simp [flush, hp, hw]
      rw [hf, if_neg (show ¬ (((x :: u).length : Int) = 0 ∨ (c ≠ 32 ∧ c ≠ 35 ∧ c ≠ 10)) by simp only [List.length_cons]; omega)]
      exact h0 _ _ _ _
  cases hb : b.drop i with
  | nil =>
    have hn : nowP b (i : Int) = 10 := by rw [nowP_drop, hb]; rfl
    rw [← hb]
    refine hstop 10 hn (by simp) ?_
    rw [hb, upto_nil]
    simp only [lineS]
    cases flush (pre mi u) l with
    | none => rfl
    | some a => simp [flush]
  | cons c t =>
    have ht : b.drop (i + 1) = t := by rw [← List.drop_drop, hb]; rfl
    have hn : nowP b (i : Int) = c := by rw [nowP_drop, hb]; rfl
    by_cases hor : c = 32 ∨ c = 35 ∨ c = 10
    · rw [← hb]
      refine hstop c hn hor ?_
      rw [hb]; exact upto_term hor
    · have hc10 : c ≠ 10 := fun h => hor (.inr (.inr h))
      rw [upto_cons hc10]
      have e : lineS (pre mi u) l (c :: upto t) = lineS (pre mi u ++ [c]) l (upto t) := by
        rw [lineS, if_neg (fun h => hor (.inr (.inl h))), if_neg (fun h => hor (.inl h))]
      rw [e, mach, if_neg (by decide), if_pos rfl, hn]
      by_cases hd2 : (48 ≤ c ∧ c ≤ 57) ∧ (u.length : Int) < 12
      · rw [if_pos hd2]
        have h := h3 (by rw [hb]; simp) mi (u ++ [c]) (10 * n + (c - 48)) l (fun x hx => by
          rcases List.mem_append.mp hx with h | h
          · exact hu x h
          · simp at h; subst h; exact hd2.1) (by simp; omega) (by rw [digs_append, hd]; simp [digs, hd2.1]) (.inr (by simp))
        rw [ht] at h
        rw [show ((i + 1 : Nat) : Int) = (i : Int) + 1 by omega] at h
        rw [show pre mi u ++ [c] = pre mi (u ++ [c]) by simp [pre]]
        refine ends_step hc10 ?_
        simpa using h
      · rw [if_neg hd2]
        have hbad : (u.length : Int) = 0 ∨ (c ≠ 32 ∧ c ≠ 35 ∧ c ≠ 10) := .inr ⟨fun h => hor (.inl h), fun h => hor (.inr (.inl h)), hc10⟩
        rw [if_pos hbad]
        have hdead : Dead (pre mi u ++ [c]) := dead_pre (fun _ => hne) hu (by omega)
        rw [dead_line hdead]
        exact ⟨i, rfl, by omega, by omega⟩
theorem mach_line (b : List Int) : ∀ (q : Nat) (i : Nat), (b.drop i).length = q → ∀ k, 3 * q + 4 ≤ k → St0 b i k ∧ St3 b i (k + 1) := by
  intro q
  induction q with
  | zero =>
    intro i hq k hk
    have hb : b.drop i = [] := List.length_eq_zero_iff.mp hq
    have hn : nowP b (i : Int) = 10 := by rw [nowP_drop, hb]; rfl
    have h0 : St0 b i k := by
      intro n d mi l
      obtain ⟨k, rfl⟩ : ∃ m, k = m + 2 := ⟨k - 2, by omega⟩
      rw [hb, upto_nil]
      simp [mach, hn, lineS, flush, ends, upto]
    exact ⟨h0, st3_of h0 (fun h => absurd hb h)⟩
  | succ q ih =>
    intro i hq k hk
    cases hb : b.drop i with
    | nil => rw [hb] at hq; simp at hq
    | cons c t =>
      have ht : b.drop (i + 1) = t := by rw [← List.drop_drop, hb]; rfl
      have hn : nowP b (i : Int) = c := by rw [nowP_drop, hb]; rfl
      have hq' : (b.drop (i + 1)).length = q := by rw [ht]; rw [hb] at hq; simpa using hq
      have hi1 : ((i + 1 : Nat) : Int) = (i : Int) + 1 := by omega
      have h0 : St0 b i k := by
        intro n d mi l
        obtain ⟨k, rfl⟩ : ∃ m, k = m + 3 := ⟨k - 3, by omega⟩
        rw [hb]
        by_cases c32 : c = 32
        · have h := (ih (i + 1) hq' (k + 2) (by omega)).1 n d mi l
          rw [ht, hi1] at h
          rw [mach, if_pos rfl, hn, if_pos c32, c32, upto_cons (by decide)]
          refine ends_step (by decide) ?_
          simpa [lineS, flush] using h
        by_cases c35 : c = 35
        · rw [mach, if_pos rfl, hn, if_neg c32, if_pos c35]
          have := mach_note b n d mi l (upto (b.drop i)).length i (k + 2) rfl (by have := upto_len (b.drop i); omega)
          rw [this, hb, c35]
          rw [upto_cons (by decide)]
          simp [lineS, flush, ends, upto_cons]
        by_cases c10 : c = 10
        · subst c10
          rw [upto_ten]
          simp [mach, hn, lineS, flush, ends, upto]
        · rw [mach, if_pos rfl, hn, if_neg c32, if_neg c35, if_neg c10, upto_cons c10]
          have e : lineS [] l (c :: upto t) = lineS [c] l (upto t) := by rw [lineS, if_neg c35, if_neg c32]; rfl
          rw [e]
          by_cases c45 : c = 45
          · have h := (ih (i + 1) hq' (k + 1) (by omega)).2 true [] 0 l (by simp) (by simp) rfl (.inl rfl)
            rw [ht, hi1] at h
            rw [if_pos c45, c45]
            refine ends_step (by decide) ?_
            simpa [pre] using h
          · rw [if_neg c45, show (c == 45) = false from beq_eq_false_iff_ne.mpr c45]
            rw [mach, if_neg (by decide), if_pos rfl, hn]
            by_cases hd2 : 48 ≤ c ∧ c ≤ 57
            · rw [if_pos ⟨hd2, by decide⟩]
              have h := (ih (i + 1) hq' k (by omega)).2 false [c] (10 * 0 + (c - 48)) l (by simp; exact hd2) (by simp) (by simp [digs, hd2]) (.inr (by simp))
              rw [ht, hi1] at h
              refine ends_step c10 ?_
              simpa [pre, hn] using h
            · rw [if_neg (fun h => hd2 h.1), if_pos (.inl rfl)]
              have hdead : Dead (pre false [] ++ [c]) := dead_pre (fun h => absurd h c45) (by simp) (.inl hd2)
              have := dead_line hdead l (upto t)
              simp only [pre, Bool.false_eq_true, if_false, List.nil_append] at this
              rw [this]
              exact ⟨i, rfl, by omega, by omega⟩
      refine ⟨h0, st3_of h0 (fun _ => ?_)⟩
      obtain ⟨k, rfl⟩ : ∃ m, k = m + 1 := ⟨k - 1, by omega⟩
      exact (ih (i + 1) hq' k (by omega)).2
/-- One line, then the others, at a place of the text. -/
theorem textF_next (b : List Int) (i : Nat) : textF (b.drop i) = (lineF (upto (b.drop i))).bind fun l => (textF (b.drop (i + (upto (b.drop i)).length + 1))).map fun x => if l = [] then x else l :: x := by
  rw [textF_step]
  by_cases h : (upto (b.drop i)).length < (b.drop i).length
  · rw [if_pos h, List.drop_drop]
    rfl
  · rw [if_neg h]
    have e : b.drop (i + (upto (b.drop i)).length + 1) = [] := List.drop_eq_nil_of_le (by have := upto_len (b.drop i); simp only [List.length_drop] at *; omega)
    rw [e, textF_nil]
end Go.Proofs.YtdkhajgfifaibaaDoor.Scan
