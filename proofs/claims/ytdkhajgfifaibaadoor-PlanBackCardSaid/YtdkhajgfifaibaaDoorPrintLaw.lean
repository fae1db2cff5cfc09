/- What is printed is read as it was: on lists of bytes alone. -/
import Derived.Test.YtdkhajgfifaibaaDoorPrintSpec
import Derived.Test.YtdkhajgfifaibaaDoorScanSpec
namespace Go.Proofs.YtdkhajgfifaibaaDoor.Scan
open Go.RowKit Go.Proofs.YtdkhajgfifaibaaDoorW.PrintWords
/-- The digits of a number that is not below nought. -/
def decI (u : Nat) : List Int := (Lib.decDigits u).map fun c => (c.toNat : Int)
theorem byteI {u : Nat} (h : u < 10) : ((UInt8.ofNat (48 + u)).toNat : Int) = 48 + (u : Int) := by
  rw [UInt8.toNat_ofNat']
  omega
theorem decI_small {u : Nat} (h : u < 10) : decI u = [48 + (u : Int)] := by
  unfold decI
  rw [Lib.decDigits, dif_pos h]
  simp only [List.map_cons, List.map_nil, byteI h]
theorem decI_big {u : Nat} (h : ¬ u < 10) : decI u = decI (u / 10) ++ [48 + ((u % 10 : Nat) : Int)] := by
  unfold decI
  rw [Lib.decDigits, dif_neg h, List.map_append]
  simp only [List.map_cons, List.map_nil, byteI (Nat.mod_lt u (by decide : 0 < 10))]
theorem decI_digits (u : Nat) : ∀ c ∈ decI u, 48 ≤ c ∧ c ≤ 57 := by
  induction u using Nat.strongRecOn with
  | _ u ih =>
    intro c hc
    by_cases h : u < 10
    · rw [decI_small h] at hc; simp at hc; omega
    · rw [decI_big h] at hc
      rcases List.mem_append.mp hc with hc | hc
      · exact ih (u / 10) (by omega) c hc
      · simp at hc; omega
theorem decI_pos (u : Nat) : 1 ≤ (decI u).length := by
  by_cases h : u < 10
  · rw [decI_small h]; simp
  · rw [decI_big h]; simp
theorem decI_digs (u : Nat) : digs 0 (decI u) = some (u : Int) := by
  induction u using Nat.strongRecOn with
  | _ u ih =>
    by_cases h : u < 10
    · rw [decI_small h]; simp only [digs]; rw [if_pos (by omega)]; congr 1; omega
    · rw [decI_big h, digs_append, ih (u / 10) (by omega)]
      simp only [Option.bind_some, digs]
      rw [if_pos (by omega)]; congr 1; omega
theorem decI_len : ∀ (k u : Nat), u < 10 ^ (k + 1) → (decI u).length ≤ k + 1
  | 0, u, h => by rw [decI_small (by simpa using h)]; simp
  | k + 1, u, h => by
    by_cases h1 : u < 10
    · rw [decI_small h1]; simp
    · rw [decI_big h1, List.length_append]
      have := decI_len k (u / 10) (by rw [Nat.pow_succ] at h; omega)
      simp only [List.length_cons, List.length_nil]; omega
theorem itoaI_pre (n : Int) : itoaI n = pre (decide (n < 0)) (decI n.natAbs) := by
  unfold itoaI Lib.itoa pre decI
  by_cases h : n < 0
  · rw [if_pos h, decide_eq_true h]; rfl
  · rw [if_neg h, decide_eq_false h, show n.toNat = n.natAbs by omega]; rfl
theorem word_itoaI {n : Int} (h0 : -1000000000000 < n) (h1 : n < 1000000000000) : word (itoaI n) = some n := by
  rw [itoaI_pre, word_done (decI_digits _) (decI_pos _) (decI_len 11 _ (by omega)) (decI_digs _)]
  by_cases h : n < 0
  · rw [decide_eq_true h, if_pos rfl]; congr 1; omega
  · rw [decide_eq_false h]; simp only [Bool.false_eq_true, if_false]; congr 1; omega
theorem itoaI_no (n : Int) : ∀ c ∈ itoaI n, c ≠ 32 ∧ c ≠ 35 ∧ c ≠ 10 := by
  intro c hc
  rw [itoaI_pre, pre] at hc
  rcases List.mem_append.mp hc with hc | hc
  · split at hc <;> simp at hc; omega
  · have := decI_digits _ c hc; omega
theorem itoaI_pos (n : Int) : 1 ≤ (itoaI n).length := by
  rw [itoaI_pre, pre, List.length_append]; have := decI_pos n.natAbs; omega
theorem lineS_word : ∀ (t w acc r : List Int), (∀ c ∈ t, c ≠ 32 ∧ c ≠ 35) → lineS w acc (t ++ r) = lineS (w ++ t) acc r
  | [], w, acc, r, _ => by simp
  | c :: t, w, acc, r, h => by
    have hc := h c (by simp)
    rw [List.cons_append, lineS, if_neg hc.2, if_neg hc.1, lineS_word t _ _ _ (fun x hx => h x (by simp [hx]))]
    simp
/-- A number that the program reads. -/
def Num12 (n : Int) : Prop := -1000000000000 < n ∧ n < 1000000000000
theorem flush_itoaI {n : Int} (h : Num12 n) (acc : List Int) : flush (itoaI n) acc = some (acc ++ [n]) := by
  unfold flush
  rw [if_neg (by intro e; have := itoaI_pos n; rw [e] at this; simp at this), word_itoaI h.1 h.2]; rfl
theorem lineS_sep : ∀ (t : List Int) (n : Int) (acc : List Int), Num12 n → (∀ m ∈ t, Num12 m) → lineS [] acc (sepI (n :: t)) = some (acc ++ n :: t)
  | [], n, acc, hn, _ => by
    simp only [sepI, List.flatMap_nil]
    rw [lineS_word _ _ _ _ (fun c hc => ⟨(itoaI_no n c hc).1, (itoaI_no n c hc).2.1⟩), lineS]
    exact flush_itoaI hn acc
  | m :: t, n, acc, hn, ht => by
    have ih := lineS_sep t m (acc ++ [n]) (ht m (by simp)) (fun x hx => ht x (by simp [hx]))
    simp only [sepI, List.flatMap_cons, List.cons_append] at ih ⊢
    rw [lineS_word _ _ _ _ (fun c hc => ⟨(itoaI_no n c hc).1, (itoaI_no n c hc).2.1⟩), List.nil_append, lineS, if_neg (by decide), if_pos rfl, flush_itoaI hn acc]
    rw [Option.bind_some, ih]; simp
theorem sepI_no10 (l : List Int) : ∀ c ∈ sepI l, c ≠ 10 := by
  intro c hc
  cases l with
  | nil => simp [sepI] at hc
  | cons n t =>
    simp only [sepI, List.mem_append, List.mem_flatMap] at hc
    rcases hc with hc | ⟨m, _, hc⟩
    · exact (itoaI_no n c hc).2.2
    · rcases List.mem_cons.mp hc with rfl | hc
      · decide
      · exact (itoaI_no m c hc).2.2
theorem textF_sep {l : List Int} (hl : l ≠ []) (h : ∀ n ∈ l, Num12 n) : textF (sepI l) = some [l] := by
  unfold textF
  rw [split_no (sepI_no10 l)]
  cases l with
  | nil => exact absurd rfl hl
  | cons n t =>
    have := lineS_sep t n [] (h n (by simp)) (fun m hm => h m (by simp [hm]))
    rw [runL, lineF, this]
    simp [runL]
theorem textF_textP : ∀ L : List (List Int), (∀ l ∈ L, ∀ n ∈ l, Num12 n) → textF (textP L) = some (L.filter fun l => !l.isEmpty)
  | [], _ => rfl
  | l :: L, h => by
    have ih := textF_textP L (fun x hx => h x (by simp [hx]))
    have e : textP (l :: L) = lineP l ++ textP L := rfl
    rw [e]
    by_cases hl : l = []
    · subst hl
      simpa [lineP] using ih
    · unfold lineP
      rw [if_neg hl, List.append_assoc, List.singleton_append, textF_mid, textF_sep hl (h l (by simp)), ih]
      cases l with
      | nil => exact absurd rfl hl
      | cons n t => rfl
theorem digs_bound : ∀ (t : List Int) (n m : Int), 0 ≤ n → digs n t = some m → 0 ≤ m ∧ m < (n + 1) * 10 ^ t.length
  | [], n, m, h0, h => by simp only [digs, Option.some.injEq] at h; subst h; simp; omega
  | c :: t, n, m, h0, h => by
    simp only [digs] at h
    split at h
    · rename_i hc
      obtain ⟨h1, h2⟩ := digs_bound t _ m (by omega) h
      refine ⟨h1, Int.lt_of_lt_of_le h2 ?_⟩
      rw [List.length_cons, Int.pow_succ, Int.mul_comm (10 ^ t.length) 10, ← Int.mul_assoc]
      exact Int.mul_le_mul_of_nonneg_right (by omega) (Int.pow_nonneg (by decide))
    · cases h
theorem core_bound {t : List Int} {n : Int} (h : core t = some n) : 0 ≤ n ∧ n < 1000000000000 := by
  unfold core at h
  split at h
  · cases h
  · rename_i hl
    obtain ⟨h1, h2⟩ := digs_bound t 0 n (by omega) h
    refine ⟨h1, Int.lt_of_lt_of_le h2 ?_⟩
    have hk : ∀ k : Nat, k ≤ 12 → (0 + 1) * (10 : Int) ^ k ≤ 1000000000000 := by decide
    exact hk _ (by omega)
theorem word_bound {w : List Int} {n : Int} (h : word w = some n) : Num12 n := by
  unfold word at h
  split at h
  · obtain ⟨m, hm, rfl⟩ := Option.map_eq_some_iff.mp h
    have := core_bound hm; unfold Num12; omega
  · have := core_bound h; unfold Num12; omega
theorem flush_bound {w acc a : List Int} (h : flush w acc = some a) (ha : ∀ n ∈ acc, Num12 n) : ∀ n ∈ a, Num12 n := by
  unfold flush at h
  split at h
  · obtain rfl := Option.some.inj h; exact ha
  · obtain ⟨m, hm, rfl⟩ := Option.map_eq_some_iff.mp h
    intro n hn
    rcases List.mem_append.mp hn with hn | hn
    · exact ha n hn
    · simp at hn; subst hn; exact word_bound hm
theorem lineS_bound : ∀ (r w acc a : List Int), lineS w acc r = some a → (∀ n ∈ acc, Num12 n) → ∀ n ∈ a, Num12 n
  | [], w, acc, a, h, ha => flush_bound h ha
  | c :: t, w, acc, a, h, ha => by
    rw [lineS] at h
    split at h
    · exact flush_bound h ha
    · split at h
      · obtain ⟨b, hb, h⟩ := Option.bind_eq_some_iff.mp h
        exact lineS_bound t [] b a h (flush_bound hb ha)
      · exact lineS_bound t _ acc a h ha
theorem runL_bound : ∀ (s : List (List Int)) (x : List (List Int)), runL s = some x → ∀ l ∈ x, l ≠ [] ∧ ∀ n ∈ l, Num12 n
  | [], x, h => by simp only [runL, Option.some.injEq] at h; subst h; simp
  | b :: s, x, h => by
    simp only [runL] at h
    obtain ⟨l, hl, h⟩ := Option.bind_eq_some_iff.mp h
    obtain ⟨r, hr, rfl⟩ := Option.map_eq_some_iff.mp h
    have ih := runL_bound s r hr
    split
    · exact ih
    · rename_i hne
      intro y hy
      rcases List.mem_cons.mp hy with rfl | hy
      · exact ⟨hne, lineS_bound b [] [] _ hl (by simp)⟩
      · exact ih y hy
/-- The numbers that are read are none too great, and no line is without any. -/
theorem textF_bound {b : List Int} {x : List (List Int)} (h : textF b = some x) : ∀ l ∈ x, l ≠ [] ∧ ∀ n ∈ l, Num12 n := runL_bound _ _ h
theorem textF_again {b : List Int} {x : List (List Int)} (h : textF b = some x) : textF (textP x) = some x := by
  have hb := textF_bound h
  rw [textF_textP x (fun l hl => (hb l hl).2)]
  congr 1
  rw [List.filter_eq_self]
  intro l hl
  have := (hb l hl).1
  cases l with
  | nil => exact absurd rfl this
  | cons => rfl
theorem sepI_len : ∀ (l : List Int), (∀ n ∈ l, -9223372036854775808 ≤ n ∧ n ≤ 9223372036854775807) → (sepI l).length ≤ l.length * 22
  | [], _ => by simp [sepI]
  | n :: t, h => by
    have h0 := itoaI_len (h n (by simp)).1 (h n (by simp)).2
    have h1 : (t.flatMap fun m => 32 :: itoaI m).length ≤ t.length * 22 := by
      have ht : ∀ m ∈ t, -9223372036854775808 ≤ m ∧ m ≤ 9223372036854775807 := fun m hm => h m (by simp [hm])
      clear h h0
      induction t with
      | nil => simp
      | cons m t ih =>
        have := ih (fun x hx => ht x (by simp [hx]))
        have h2 := itoaI_len (ht m (by simp)).1 (ht m (by simp)).2
        simp only [List.flatMap_cons, List.length_append, List.length_cons]; omega
    simp only [sepI, List.length_append, List.length_cons]; omega
theorem textP_len : ∀ (L : List (List Int)) (M : Nat), (∀ l ∈ L, l.length ≤ M ∧ ∀ n ∈ l, -9223372036854775808 ≤ n ∧ n ≤ 9223372036854775807) → (textP L).length ≤ L.length * (M * 22 + 1)
  | [], M, _ => by simp [textP]
  | l :: L, M, h => by
    have ih := textP_len L M (fun x hx => h x (by simp [hx]))
    have h0 := sepI_len l (h l (by simp)).2
    have h1 := (h l (by simp)).1
    have e : textP (l :: L) = lineP l ++ textP L := rfl
    have h2 : (lineP l).length ≤ M * 22 + 1 := by
      unfold lineP; split
      · simp
      · rw [List.length_append]; simp only [List.length_cons, List.length_nil]; omega
    rw [e, List.length_append, List.length_cons, Nat.succ_mul]; omega
/-- Lines whose text the program prints, and the reference. -/
def Prints (l : List (List Int)) : Prop := l.length ≤ 100000 ∧ ∀ x ∈ l, x.length ≤ 100000 ∧ ∀ n ∈ x, -9223372036854775808 ≤ n ∧ n ≤ 9223372036854775807
theorem Prints.len {l : List (List Int)} (h : Prints l) : (textP l).length ≤ 1000000000000 := by
  have := textP_len l 100000 h.2
  have h1 := h.1
  have : l.length * (100000 * 22 + 1) ≤ 100000 * (100000 * 22 + 1) := Nat.mul_le_mul_right _ h1
  omega
end Go.Proofs.YtdkhajgfifaibaaDoor.Scan
