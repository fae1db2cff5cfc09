/- Plain laws of Go's stable sort by blocks: what swapRange, rotate and symMerge do to a row. -/
import Derived.Sort.LotA
namespace Go.Proofs.YtdkhajgfifaibaaDoor
open Go.Sort
section
variable {α : Type} [Inhabited α]
/-- d' is d with [a, m) and [m, b) in each other's place. -/
def Rot (a m b : Nat) (d d' : Array α) : Prop :=
  PermIn a b d d' ∧ (∀ x, a ≤ x → x < a + (b - m) → d'[x]! = d[x + (m - a)]!) ∧ (∀ x, a + (b - m) ≤ x → x < b → d'[x]! = d[x - (b - m)]!)
theorem at_ix {d : Array α} {x y : Nat} (h : x = y) : d[x]! = d[y]! := by rw [h]
def swRange (a b n : Nat) : Nat → Array α → Array α
  | 0, d => d
  | q + 1, d => swRange a b n q (swp d (a + (n - (q + 1))) (b + (n - (q + 1))))
theorem swRange_get (a b n : Nat) (hab : a + n ≤ b) : ∀ (q : Nat) (d : Array α), q ≤ n → b + n ≤ d.size →
    (swRange a b n q d).size = d.size ∧ (∀ x, a + (n - q) ≤ x → x < a + n → (swRange a b n q d)[x]! = d[x + (b - a)]!) ∧ (∀ x, b + (n - q) ≤ x → x < b + n → (swRange a b n q d)[x]! = d[x - (b - a)]!) ∧
    (∀ x, (x < a + (n - q) ∨ a + n ≤ x) → (x < b + (n - q) ∨ b + n ≤ x) → (swRange a b n q d)[x]! = d[x]!) ∧ (∀ lo hi, lo ≤ a → b + n ≤ hi → hi ≤ d.size → PermIn lo hi d (swRange a b n q d))
  | 0, d, _, _ => ⟨rfl, fun x h1 h2 => by omega, fun x h1 h2 => by omega, fun x _ _ => rfl, fun lo hi _ _ _ => permIn_refl d lo hi⟩
  | q + 1, d, hq, hb => by
    have hsz := swp_size d (a + (n - (q + 1))) (b + (n - (q + 1)))
    obtain ⟨h1, h2, h3, h4, h5⟩ := swRange_get a b n hab q (swp d (a + (n - (q + 1))) (b + (n - (q + 1)))) (by omega) (by rw [hsz]; exact hb)
    have g := swp_get d (show a + (n - (q + 1)) < d.size by omega) (show b + (n - (q + 1)) < d.size by omega)
    refine ⟨h1.trans hsz, fun x l u => ?_, fun x l u => ?_, fun x l u => ?_, fun lo hi l u v => ?_⟩
    · show (swRange a b n q _)[x]! = _
      by_cases e : x = a + (n - (q + 1))
      · rw [h4 x (by omega) (by omega), g, if_neg (by omega), if_pos e]; exact at_ix (by omega)
      · rw [h2 x (by omega) u, g, if_neg (by omega), if_neg (by omega)]
    · show (swRange a b n q _)[x]! = _
      by_cases e : x = b + (n - (q + 1))
      · rw [h4 x (by omega) (by omega), g, if_pos e]; exact at_ix (by omega)
      · rw [h3 x (by omega) u, g, if_neg (by omega), if_neg (by omega)]
    · show (swRange a b n q _)[x]! = _
      rw [h4 x (by omega) (by omega), g, if_neg (by omega), if_neg (by omega)]
    · exact permIn_trans _ _ _ _ _ (swp_permIn d lo hi _ _ (by omega) (by omega) (by omega) (by omega) v) (h5 lo hi l u (by rw [hsz]; exact v))
theorem rot_last (m i : Nat) (d : Array α) (hi : i ≤ m) (hb : m + i ≤ d.size) : Rot (m - i) m (m + i) d (swRange (m - i) m i i d) := by
  obtain ⟨h1, h2, h3, h4, h5⟩ := swRange_get (m - i) m i (by omega) i d (Nat.le_refl _) hb
  refine ⟨h5 _ _ (Nat.le_refl _) (Nat.le_refl _) hb, fun x l u => ?_, fun x l u => ?_⟩
  · rw [h2 x (by omega) (by omega)]
  · rw [h3 x (by omega) (by omega)]; exact at_ix (by omega)
theorem rot_left (m i j : Nat) (d d' : Array α) (hi : i ≤ m) (hj : j < i) (hb : m + j ≤ d.size) (h : Rot (m - (i - j)) m (m + j) (swRange (m - i) m j j d) d') : Rot (m - i) m (m + j) d d' := by
  obtain ⟨h1, h2, h3, h4, h5⟩ := swRange_get (m - i) m j (by omega) j d (Nat.le_refl _) hb
  obtain ⟨g1, g2, g3⟩ := h
  refine ⟨permIn_trans _ _ _ _ _ (h5 _ _ (Nat.le_refl _) (Nat.le_refl _) hb) (permIn_mono _ _ _ _ _ _ (by omega) (Nat.le_refl _) (by rw [h1]; exact hb) g1), fun x l u => ?_, fun x l u => ?_⟩
  · rw [g1.2.1 x (by omega), h2 x (by omega) (by omega)]
  · by_cases e : x < m - (i - j) + j
    · rw [g2 x (by omega) (by omega), h3 _ (by omega) (by omega)]; exact at_ix (by omega)
    · rw [g3 x (by omega) (by omega), h4 _ (by omega) (by omega)]
theorem rot_right (m i j : Nat) (d d' : Array α) (hi : i ≤ m) (hj : i < j) (hb : m + j ≤ d.size) (h : Rot (m - i) m (m + (j - i)) (swRange (m - i) (m + j - i) i i d) d') : Rot (m - i) m (m + j) d d' := by
  obtain ⟨h1, h2, h3, h4, h5⟩ := swRange_get (m - i) (m + j - i) i (by omega) i d (Nat.le_refl _) (by omega)
  obtain ⟨g1, g2, g3⟩ := h
  refine ⟨permIn_trans _ _ _ _ _ (h5 _ _ (Nat.le_refl _) (by omega) hb) (permIn_mono _ _ _ _ _ _ (Nat.le_refl _) (by omega) (by rw [h1]; exact hb) g1), fun x l u => ?_, fun x l u => ?_⟩
  · by_cases e : x < m - i + (j - i)
    · rw [g2 x (by omega) (by omega), h4 _ (by omega) (by omega)]
    · rw [g3 x (by omega) (by omega), h2 _ (by omega) (by omega)]; exact at_ix (by omega)
  · rw [g1.2.1 x (by omega), h3 x (by omega) (by omega)]; exact at_ix (by omega)
theorem rot_none_l (m b : Nat) (d : Array α) : Rot m m b d d := ⟨permIn_refl _ _ _, fun x _ _ => at_ix (by omega), fun x l u => by omega⟩
theorem rot_none_r (a m : Nat) (d : Array α) : Rot a m m d d := ⟨permIn_refl _ _ _, fun x l u => by omega, fun x _ _ => at_ix (by omega)⟩
theorem rot_up (k i : Nat) (d d' : Array α) (hk : k + 1 < i) (hi : i ≤ d.size) (h : Rot (k + 1) (k + 2) i (swp d k (k + 1)) d') : Rot k (k + 1) i d d' := by
  have g := swp_get d (show k < d.size by omega) (show k + 1 < d.size by omega)
  obtain ⟨g1, g2, g3⟩ := h
  refine ⟨permIn_trans _ _ _ _ _ (swp_permIn d k i _ _ (by omega) (by omega) (by omega) (by omega) hi) (permIn_mono _ _ _ _ _ _ (by omega) (Nat.le_refl _) (by rw [swp_size]; exact hi) g1), fun x l u => ?_, fun x l u => ?_⟩
  · by_cases e : x = k
    · rw [g1.2.1 x (by omega), g, if_neg (by omega), if_pos e]; exact at_ix (by omega)
    · rw [g2 x (by omega) (by omega), g, if_neg (by omega), if_neg (by omega)]; exact at_ix (by omega)
  · rw [g3 x (by omega) (by omega), g, if_pos (by omega)]; exact at_ix (by omega)
theorem rot_down (i k : Nat) (d d' : Array α) (hk : i < k) (hs : k < d.size) (h : Rot i (k - 1) k (swp d k (k - 1)) d') : Rot i k (k + 1) d d' := by
  have g := swp_get d hs (show k - 1 < d.size by omega)
  obtain ⟨g1, g2, g3⟩ := h
  refine ⟨permIn_trans _ _ _ _ _ (swp_permIn d i (k + 1) _ _ (by omega) (by omega) (by omega) (by omega) (by omega)) (permIn_mono _ _ _ _ _ _ (by omega) (by omega) (by rw [swp_size]; omega) g1), fun x l u => ?_, fun x l u => ?_⟩
  · rw [g2 x (by omega) (by omega), g, if_pos (by omega)]; exact at_ix (by omega)
  · by_cases e : x = k
    · rw [g1.2.1 x (by omega), g, if_neg (by omega), if_pos e]; exact at_ix (by omega)
    · rw [g3 x (by omega) (by omega), g, if_neg (by omega), if_neg (by omega)]; exact at_ix (by omega)

/-! ### the merge -/
def CrossIn (ix : α → Nat) (a m b : Nat) (d : Array α) : Prop := ∀ i j, a ≤ i → i < m → m ≤ j → j < b → ix d[i]! < ix d[j]!
/-- The row is parted at c: what lies in [a, c) comes before what lies in [c, b); each half is two runs. -/
structure Cut (lt : α → α → Bool) (ix : α → Nat) (a s c e b : Nat) (d1 : Array α) : Prop where
  s1 : SortedIn lt a s d1
  s2 : SortedIn lt s c d1
  s3 : SortedIn lt c e d1
  s4 : SortedIn lt e b d1
  x1 : CrossIn ix a s c d1
  x2 : CrossIn ix c e b d1
  lo : ∀ i j, a ≤ i → i < c → c ≤ j → j < b → lt d1[j]! d1[i]! = false
theorem cut_of {lt : α → α → Bool} (hS : SWO lt) {ix : α → Nat} {a s m e b : Nat} {d d1 : Array α} (has : a ≤ s) (hsm : s ≤ m) (hme : m ≤ e) (heb : e ≤ b) (hL : SortedIn lt a m d) (hR : SortedIn lt m b d) (hX : CrossIn ix a m b d)
    (hr : Rot s m e d d1) (h1 : s = a ∨ e = b ∨ lt d[e]! d[s - 1]! = false) (h2 : e = m ∨ s = m ∨ lt d[s]! d[e - 1]! = false) : Cut lt ix a s (s + (e - m)) e b d1 := by
  obtain ⟨g1, g2, g3⟩ := hr
  have o : ∀ x, x < s ∨ e ≤ x → d1[x]! = d[x]! := g1.2.1
  have le_tr : ∀ x y z, lt y x = false → lt z y = false → lt z x = false := fun x y z p q => hS.ntrans z y x q p
  refine ⟨fun i j l u v => ?_, fun i j l u v => ?_, fun i j l u v => ?_, fun i j l u v => ?_, fun i j l u v x => ?_, fun i j l u v x => ?_, fun i j l u v x => ?_⟩
  · rw [o i (by omega), o j (by omega)]; exact hL i j l u (by omega)
  · rw [g2 i (by omega) (by omega), g2 j (by omega) (by omega)]; exact hR _ _ (by omega) (by omega) (by omega)
  · rw [g3 i (by omega) (by omega), g3 j (by omega) (by omega)]; exact hL _ _ (by omega) (by omega) (by omega)
  · rw [o i (by omega), o j (by omega)]; exact hR i j (by omega) u v
  · rw [o i (by omega), g2 j (by omega) (by omega)]; exact hX _ _ (by omega) (by omega) (by omega) (by omega)
  · rw [g3 i (by omega) (by omega), o j (by omega)]; exact hX _ _ (by omega) (by omega) (by omega) (by omega)
  · by_cases p : i < s
    · by_cases q : j < e
      · rw [o i (by omega), g3 j (by omega) (by omega)]; exact hL _ _ (by omega) (by omega) (by omega)
      · rw [o i (by omega), o j (by omega)]
        have e1 : lt d[e]! d[s - 1]! = false := by rcases h1 with h | h | h; · omega
                                                   · omega
                                                   · exact h
        have e2 : lt d[s - 1]! d[i]! = false := by
          by_cases y : i = s - 1
          · rw [y]; exact hS.irrefl _
          · exact hL _ _ (by omega) (by omega) (by omega)
        have e3 : lt d[j]! d[e]! = false := by
          by_cases y : j = e
          · rw [y]; exact hS.irrefl _
          · exact hR _ _ (by omega) (by omega) (by omega)
        exact le_tr _ _ _ (le_tr _ _ _ e2 e1) e3
    · by_cases q : j < e
      · rw [g2 i (by omega) (by omega), g3 j (by omega) (by omega)]
        have e1 : lt d[s]! d[e - 1]! = false := by rcases h2 with h | h | h; · omega
                                                   · omega
                                                   · exact h
        have e2 : lt d[e - 1]! d[i + (m - s)]! = false := by
          by_cases y : i + (m - s) = e - 1
          · rw [y]; exact hS.irrefl _
          · exact hR _ _ (by omega) (by omega) (by omega)
        have e3 : lt d[j - (e - m)]! d[s]! = false := by
          by_cases y : j - (e - m) = s
          · rw [y]; exact hS.irrefl _
          · exact hL _ _ (by omega) (by omega) (by omega)
        exact le_tr _ _ _ (le_tr _ _ _ e2 e1) e3
      · rw [g2 i (by omega) (by omega), o j (by omega)]; exact hR _ _ (by omega) (by omega) (by omega)
theorem merge_done {lt : α → α → Bool} {ix : α → Nat} {a s c e b : Nat} {d1 d2 d3 : Array α} (h : Cut lt ix a s c e b d1) (hac : a ≤ c) (hcb : c ≤ b) (hb : b ≤ d1.size) (p1 : PermIn a c d1 d2) (t1 : SortedIn lt a c d2) (p2 : PermIn c b d2 d3) (t2 : SortedIn lt c b d3) :
    PermIn a b d1 d3 ∧ SortedIn lt a b d3 := by
  have hb2 : b ≤ d2.size := by rw [p1.1]; exact hb
  refine ⟨permIn_trans _ _ _ _ _ (permIn_mono _ _ _ _ _ _ (Nat.le_refl _) hcb hb p1) (permIn_mono _ _ _ _ _ _ hac (Nat.le_refl _) hb2 p2), fun i j l u v => ?_⟩
  by_cases hj : j < c
  · rw [p2.2.1 i (by omega), p2.2.1 j (by omega)]; exact t1 i j l u hj
  · by_cases hi : i < c
    · rw [p2.2.1 i (by omega)]
      have A : ∀ y, c ≤ y → y < b → lt d2[y]! d2[i]! = false := by
        intro y q1 q2
        rw [p1.2.1 y (by omega)]
        exact permIn_all d1 d2 a c (fun z => lt d1[y]! z = false) (by omega) p1 (fun k k1 k2 => h.lo k y k1 k2 q1 q2) i l hi
      exact permIn_all d2 d3 c b (fun z => lt z d2[i]! = false) hb2 p2 A j (by omega) v
    · exact t2 i j (by omega) u v
/-- Two runs, of which one is empty, are sorted. -/
theorem sorted_one {lt : α → α → Bool} {a s c : Nat} {d : Array α} (h1 : SortedIn lt a s d) (h2 : SortedIn lt s c d) (h : s ≤ a ∨ c ≤ s) : SortedIn lt a c d := by
  intro i j l u v
  rcases h with h | h
  · exact h2 i j (by omega) u v
  · exact h1 i j l u (by omega)
theorem sorted_two {lt : α → α → Bool} (hS : SWO lt) {a s c : Nat} {d : Array α} (h1 : SortedIn lt a s d) (h2 : SortedIn lt s c d) (h : s ≤ a ∨ c ≤ s ∨ lt d[s]! d[s - 1]! = false) : SortedIn lt a c d := by
  rcases h with h | h | h
  · exact sorted_one h1 h2 (Or.inl h)
  · exact sorted_one h1 h2 (Or.inr h)
  · intro i j l u v
    by_cases p : j < s
    · exact h1 i j l u p
    · by_cases q : i < s
      · have e1 : lt d[s - 1]! d[i]! = false := by
          by_cases y : i = s - 1
          · rw [y]; exact hS.irrefl _
          · exact h1 _ _ (by omega) (by omega) (by omega)
        have e2 : lt d[j]! d[s]! = false := by
          by_cases y : j = s
          · rw [y]; exact hS.irrefl _
          · exact h2 _ _ (by omega) (by omega) (by omega)
        exact hS.ntrans _ _ _ (hS.ntrans _ _ _ e2 h) e1
      · exact h2 i j (by omega) u v
theorem Rot.sz {a m b : Nat} {d d' : Array α} (h : Rot a m b d d') : d'.size = d.size := h.1.1
theorem pin_refl (d : Array α) (a b : Nat) : PermIn a b d d := permIn_refl d a b
theorem pin_sz {a b : Nat} {d d' : Array α} (h : PermIn a b d d') : d'.size = d.size := h.1
theorem Cut.k3 {lt : α → α → Bool} {ix : α → Nat} {a s c e b : Nat} {d1 d2 : Array α} (C : Cut lt ix a s c e b d1) (p : PermIn a c d1 d2) : SortedIn lt c e d2 := fun i j l u v => by rw [p.2.1 i (Or.inr l), p.2.1 j (Or.inr (by omega))]; exact C.s3 i j l u v
theorem Cut.k4 {lt : α → α → Bool} {ix : α → Nat} {a s c e b : Nat} {d1 d2 : Array α} (C : Cut lt ix a s c e b d1) (hce : c ≤ e) (p : PermIn a c d1 d2) : SortedIn lt e b d2 := fun i j l u v => by rw [p.2.1 i (Or.inr (by omega)), p.2.1 j (Or.inr (by omega))]; exact C.s4 i j l u v
theorem Cut.kx {lt : α → α → Bool} {ix : α → Nat} {a s c e b : Nat} {d1 d2 : Array α} (C : Cut lt ix a s c e b d1) (p : PermIn a c d1 d2) : CrossIn ix c e b d2 := fun i j l u v x => by rw [p.2.1 i (Or.inr l), p.2.1 j (Or.inr (by omega))]; exact C.x2 i j l u v x
theorem merge_l {lt : α → α → Bool} (hS : SWO lt) {ix : α → Nat} {a m i b : Nat} {d d1 : Array α} (hm : m = a + 1) (hmi : m ≤ i) (hib : i ≤ b) (hb : b ≤ d.size) (hR : SortedIn lt m b d) (hX : CrossIn ix a m b d)
    (h1 : i = m ∨ lt d[i - 1]! d[a]! = true) (h2 : i = b ∨ lt d[i]! d[a]! = false) (hr : Rot a m i d d1) : PermIn a b d d1 ∧ SortedIn lt a b d1 := by
  have hL : SortedIn lt a m d := by
    intro x y l u v
    exfalso; omega
  have C := cut_of hS (Nat.le_refl a) (by omega) hmi hib hL hR hX hr (Or.inl rfl) (by
    rcases h1 with h | h
    · exact Or.inl h
    · exact Or.inr (Or.inr (hS.asymmA h)))
  have P := permIn_mono _ _ _ _ _ _ (Nat.le_refl _) hib hb hr.1
  have U : SortedIn lt (a + (i - m)) b d1 := sorted_two hS C.s3 C.s4 (by
    rcases h2 with h | h
    · exact Or.inr (Or.inl (by omega))
    · refine Or.inr (Or.inr ?_)
      rw [hr.1.2.1 i (by omega), hr.2.2 (i - 1) (by omega) (by omega), show i - 1 - (i - m) = a by omega]; exact h)
  have M := merge_done C (by omega) (by omega) (by rw [P.1]; exact hb) (permIn_refl _ _ _) C.s2 (permIn_refl _ _ _) U
  exact ⟨P, M.2⟩
theorem merge_r {lt : α → α → Bool} (hS : SWO lt) {ix : α → Nat} {a m i b : Nat} {d d1 : Array α} (hm : b = m + 1) (hai : a ≤ i) (him : i ≤ m) (hb : b ≤ d.size) (hL : SortedIn lt a m d) (hX : CrossIn ix a m b d)
    (h1 : i = a ∨ lt d[m]! d[i - 1]! = false) (h2 : i = m ∨ lt d[m]! d[i]! = true) (hr : Rot i m b d d1) : PermIn a b d d1 ∧ SortedIn lt a b d1 := by
  have hR : SortedIn lt m b d := by
    intro x y l u v
    exfalso; omega
  have C := cut_of hS hai him (by omega) (Nat.le_refl b) hL hR hX hr (Or.inr (Or.inl rfl)) (by
    rcases h2 with h | h
    · exact Or.inr (Or.inl h)
    · refine Or.inr (Or.inr ?_)
      rw [show b - 1 = m by omega]; exact hS.asymmA h)
  have P := permIn_mono _ _ _ _ _ _ hai (Nat.le_refl _) hb hr.1
  have U : SortedIn lt a (i + (b - m)) d1 := sorted_two hS C.s1 C.s2 (by
    rcases h1 with h | h
    · exact Or.inl (by omega)
    · by_cases hia : i = a
      · exact Or.inl (by omega)
      refine Or.inr (Or.inr ?_)
      rw [hr.1.2.1 (i - 1) (by omega), hr.2.1 i (by omega) (by omega), show i + (m - i) = m by omega]; exact h)
  have M := merge_done C (by omega) (by omega) (by rw [P.1]; exact hb) (permIn_refl _ _ _) U (permIn_refl _ _ _) C.s3
  exact ⟨P, M.2⟩

/-! ### the insertion sort is stable where the numbers rise -/
theorem insInner_stable {lt ls : α → α → Bool} {ix : α → Nat} (hl : ∀ x y, ix x < ix y → lt y x = ls y x) (a : Nat) : ∀ (j : Nat) (d : Array α), a ≤ j → j < d.size → (∀ k, a ≤ k → k < j → ix d[k]! < ix d[j]!) → insInner lt a j d = insInner ls a j d
  | 0, d, _, _, _ => rfl
  | j + 1, d, ha, hs, h => by
    unfold insInner
    by_cases c : j + 1 > a
    · have e : lt d[j + 1]! d[j]! = ls d[j + 1]! d[j]! := hl _ _ (h j (by omega) (by omega))
      rw [e]
      by_cases t : ls d[j + 1]! d[j]! = true
      · have g := swp_get d hs (show j < d.size by omega)
        have ih := insInner_stable hl a j (swp d (j + 1) j) (by omega) (by rw [swp_size]; omega) (fun k k1 k2 => by
          rw [g, g, if_neg (by omega), if_neg (by omega), if_pos rfl]; exact h k k1 (by omega))
        simp only [ih]
      · simp only [Bool.not_eq_true] at t
        simp [t]
    · simp [c]
theorem insInner_in {ls : α → α → Bool} (a : Nat) : ∀ (j : Nat) (d : Array α), a ≤ j → j < d.size → PermIn a (j + 1) d (insInner ls a j d)
  | 0, d, _, _ => permIn_refl _ _ _
  | j + 1, d, ha, hs => by
    unfold insInner
    split
    · rename_i c
      simp only [Bool.and_eq_true, decide_eq_true_eq] at c
      have ih := insInner_in (ls := ls) a j (swp d (j + 1) j) (by omega) (by rw [swp_size]; omega)
      exact permIn_trans _ _ _ _ _ (swp_permIn d a (j + 2) _ _ (by omega) (by omega) (by omega) (by omega) (by omega)) (permIn_mono _ _ _ _ _ _ (Nat.le_refl _) (by omega) (by rw [swp_size]; omega) ih)
    · exact permIn_refl _ _ _
theorem insOuter_stable {lt ls : α → α → Bool} {ix : α → Nat} (hl : ∀ x y, ix x < ix y → lt y x = ls y x) (a b : Nat) : ∀ (n i : Nat) (d : Array α), b - i = n → a ≤ i → b ≤ d.size → (∀ k j, a ≤ k → k < j → i ≤ j → j < b → ix d[k]! < ix d[j]!) → insOuter lt a b i d = insOuter ls a b i d
  | 0, i, d, hn, _, _, _ => by rw [insOuter, if_neg (by omega), insOuter, if_neg (by omega)]
  | n + 1, i, d, hn, hai, hb, h => by
    have hlt : i < b := by omega
    rw [insOuter, if_pos hlt]
    conv => rhs; rw [insOuter, if_pos hlt]
    rw [insInner_stable hl a i d hai (by omega) (fun k k1 k2 => h k i k1 k2 (Nat.le_refl _) hlt)]
    have p := insInner_in (ls := ls) a i d hai (by omega)
    refine insOuter_stable hl a b n (i + 1) _ (by omega) (by omega) (by rw [p.1]; exact hb) (fun k j k1 k2 k3 k4 => ?_)
    rw [p.2.1 j (by omega)]
    by_cases c : k < i + 1
    · exact permIn_all d _ a (i + 1) (fun z => ix z < ix d[j]!) (by omega) p (fun k' l u => h k' j l (by omega) (by omega) k4) k k1 c
    · rw [p.2.1 k (by omega)]; exact h k j k1 k2 (by omega) k4
theorem insertion_stable {lt ls : α → α → Bool} {ix : α → Nat} (hS : SWO ls) (hl : ∀ x y, ix x < ix y → lt y x = ls y x) (d : Array α) (a b : Nat) (hab : a ≤ b) (hb : b ≤ d.size) (h : ∀ k j, a ≤ k → k < j → j < b → ix d[k]! < ix d[j]!) :
    PermIn a b d (insertionSort lt d a b) ∧ SortedIn ls a b (insertionSort lt d a b) := by
  have e : insertionSort lt d a b = insertionSort ls d a b := insOuter_stable hl a b (b - (a + 1)) (a + 1) d rfl (by omega) hb (fun k j k1 k2 _ k4 => h k j k1 k2 k4)
  rw [e]
  exact insertionSort_holds hS d a b hab hb
theorem ins_none {lt : α → α → Bool} (d : Array α) (b : Nat) : insertionSort lt d b b = d := by unfold insertionSort; rw [insOuter, if_neg (by omega)]
theorem cross_of {ix : α → Nat} {d d1 d2 : Array α} {m b : Nat} (hb : b ≤ d.size) (hmb : m ≤ b) (h : ∀ k j, k < j → j < d.size → ix d[k]! < ix d[j]!) (p1 : PermIn 0 m d d1) (p2 : PermIn m b d1 d2) : CrossIn ix 0 m b d2 := by
  intro i j _ u v x
  rw [p2.2.1 i (Or.inl u)]
  have A : ∀ y, m ≤ y → y < b → ix d1[i]! < ix d1[y]! := by
    intro y l r
    rw [p1.2.1 y (Or.inr l)]
    exact permIn_all d d1 0 m (fun z => ix z < ix d[y]!) (by omega) p1 (fun k _ k2 => h k y (by omega) (by omega)) i (Nat.zero_le _) u
  exact permIn_all d1 d2 m b (fun z => ix d1[i]! < ix z) (by rw [p1.1]; exact hb) p2 A j v x
/-- Two blocks, each sorted by insertion. -/
structure Two (ls : α → α → Bool) (ix : α → Nat) (m b : Nat) (d0 d1 d2 : Array α) : Prop where
  z1 : d1.size = d0.size
  z2 : d2.size = d0.size
  p : PermIn 0 b d0 d2
  s1 : SortedIn ls 0 m d2
  s2 : SortedIn ls m b d2
  x : CrossIn ix 0 m b d2
theorem two_runs {lt ls : α → α → Bool} {ix : α → Nat} (hS : SWO ls) (hl : ∀ x y, ix x < ix y → lt y x = ls y x) (d : Array α) (m b : Nat) (hmb : m ≤ b) (hb : b ≤ d.size) (h : ∀ k j, k < j → j < d.size → ix d[k]! < ix d[j]!) :
    Two ls ix m b d (insertionSort lt d 0 m) (insertionSort lt (insertionSort lt d 0 m) m b) := by
  have A := insertion_stable hS hl d 0 m (Nat.zero_le _) (by omega) (fun k j _ k2 k3 => h k j k2 (by omega))
  generalize insertionSort lt d 0 m = d1 at A ⊢
  have B := insertion_stable hS hl d1 m b hmb (by rw [A.1.1]; exact hb) (fun k j k1 k2 k3 => by rw [A.1.2.1 k (Or.inr k1), A.1.2.1 j (Or.inr (by omega))]; exact h k j k2 (by omega))
  generalize insertionSort lt d1 m b = d2 at B ⊢
  exact ⟨A.1.1, B.1.1.trans A.1.1, permIn_trans _ _ _ _ _ (permIn_mono _ _ _ _ _ _ (Nat.le_refl _) hmb hb A.1) (permIn_mono _ _ _ _ _ _ (Nat.zero_le _) (Nat.le_refl _) (by rw [A.1.1]; exact hb) B.1),
    fun i j l u v => by rw [B.1.2.1 i (Or.inl (by omega)), B.1.2.1 j (Or.inl v)]; exact A.2 i j l u v, B.2, cross_of hb hmb h A.1 B.1⟩
theorem two_end {ls : α → α → Bool} {ix : α → Nat} {m b : Nat} {d0 d1 d2 d3 : Array α} (T : Two ls ix m b d0 d1 d2) (p : PermIn 0 b d2 d3) : PermIn 0 b d0 d3 := permIn_trans _ _ _ _ _ T.p p
end
end Go.Proofs.YtdkhajgfifaibaaDoor
