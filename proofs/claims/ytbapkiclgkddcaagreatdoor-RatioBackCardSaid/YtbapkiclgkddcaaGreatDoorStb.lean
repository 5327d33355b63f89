/- Stable sorting, in plain arrays: the order refined by the old places, insertion sort under both orders, and what merging by rotation does. -/
import Derived.Sort.LotA
namespace Go.Proofs.YtbapkiclgkddcaaGreatDoor.Given
open Go.Sort
variable {α : Type}
set_option linter.unusedVariables false
/-- the order refined by the old places -/
def lt2 (lt : α → α → Bool) (key : α → Nat) (x y : α) : Bool := lt x y || (!lt y x && decide (key x < key y))
theorem lt2_true {lt : α → α → Bool} {key : α → Nat} {x y : α} : lt2 lt key x y = true ↔ lt x y = true ∨ (lt y x = false ∧ key x < key y) := by
  simp [lt2]
theorem lt2_false {lt : α → α → Bool} {key : α → Nat} {x y : α} : lt2 lt key x y = false ↔ lt x y = false ∧ (lt y x = true ∨ key y ≤ key x) := by
  simp [lt2]; intro _; rcases Bool.eq_false_or_eq_true (lt y x) with h | h <;> simp [h]
/-- a later one against an earlier one: both orders tell the same -/
theorem lt2_back {lt : α → α → Bool} {key : α → Nat} {x y : α} (h : key y < key x) : lt2 lt key x y = lt x y := by
  unfold lt2
  rw [show decide (key x < key y) = false from decide_eq_false (by omega), Bool.and_false, Bool.or_false]
theorem lt2_swo {lt : α → α → Bool} (h : SWO lt) (key : α → Nat) : SWO (lt2 lt key) := by
  have n1 : ∀ {x y z}, lt x y = true → lt z y = false → lt x z = true := fun {x y z} h1 h2 => by
    rcases Bool.eq_false_or_eq_true (lt x z) with h3 | h3
    · exact h3
    · rw [h.ntrans x z y h3 h2] at h1; cases h1
  have n2 : ∀ {x y z}, lt y x = false → lt y z = true → lt x z = true := fun {x y z} h1 h2 => by
    rcases Bool.eq_false_or_eq_true (lt x z) with h3 | h3
    · exact h3
    · rw [h.ntrans y x z h1 h3] at h2; cases h2
  refine ⟨fun x => ?_, fun x y z h1 h2 => ?_, fun x y z h1 h2 => ?_⟩
  · rw [lt2_false]; exact ⟨h.irrefl x, Or.inr (Nat.le_refl _)⟩
  · rw [lt2_true] at *
    rcases h1 with h1 | ⟨h1, k1⟩ <;> rcases h2 with h2 | ⟨h2, k2⟩
    · exact Or.inl (h.trans _ _ _ h1 h2)
    · exact Or.inl (n1 h1 h2)
    · exact Or.inl (n2 h1 h2)
    · exact Or.inr ⟨h.ntrans _ _ _ h2 h1, by omega⟩
  · rw [lt2_false] at *
    obtain ⟨h1, k1⟩ := h1
    obtain ⟨h2, k2⟩ := h2
    refine ⟨h.ntrans _ _ _ h1 h2, ?_⟩
    rcases k1 with k1 | k1 <;> rcases k2 with k2 | k2
    · exact Or.inl (h.trans _ _ _ k2 k1)
    · exact Or.inl (n2 h2 k1)
    · exact Or.inl (n1 k2 h1)
    · rcases Bool.eq_false_or_eq_true (lt z x) with h3 | h3
      · exact Or.inl h3
      · exact Or.inr (by omega)
theorem lt2_tot {lt : α → α → Bool} {key : α → Nat} (hk : ∀ x y, key x = key y → x = y) (x y : α) (h1 : lt2 lt key x y = false) (h2 : lt2 lt key y x = false) : x = y := by
  rw [lt2_false] at *
  obtain ⟨a1, b1⟩ := h1
  obtain ⟨a2, b2⟩ := h2
  refine hk x y ?_
  rcases b1 with b1 | b1
  · rw [b1] at a2; cases a2
  · rcases b2 with b2 | b2
    · rw [b2] at a1; cases a1
    · omega
variable [Inhabited α]
theorem ins_inner_eq {lt : α → α → Bool} {key : α → Nat} (a : Nat) : ∀ (j : Nat) (d : Array α), j < d.size → (∀ p, a ≤ p → p < j → key d[p]! < key d[j]!) → insInner (lt2 lt key) a j d = insInner lt a j d := by
  intro j
  induction j with
  | zero => intro d _ _; rfl
  | succ j ih =>
    intro d hs h
    unfold insInner
    by_cases hj : j + 1 > a
    · rw [lt2_back (h j (by omega) (by omega))]
      by_cases hl : (decide (j + 1 > a) && lt d[j + 1]! d[j]!) = true
      · rw [if_pos hl, if_pos hl]
        refine ih _ (by rw [size_swp]; omega) (fun p h1 h2 => ?_)
        rw [swp_right d (j + 1) j (by omega), swp_other d (j + 1) j p (by omega) (by omega)]
        exact h p h1 (by omega)
      · rw [if_neg hl, if_neg hl]
    · rw [show decide (j + 1 > a) = false from decide_eq_false hj]
      simp
theorem inner_other {lt : α → α → Bool} (a : Nat) : ∀ (j : Nat) (d : Array α), (insInner lt a j d).size = d.size ∧ ∀ k, j < k → (insInner lt a j d)[k]! = d[k]! := by
  intro j
  induction j with
  | zero => intro d; exact ⟨rfl, fun _ _ => rfl⟩
  | succ j ih =>
    intro d
    unfold insInner
    split
    · obtain ⟨e1, e2⟩ := ih (swp d (j + 1) j)
      refine ⟨by rw [e1, size_swp], fun k hk => ?_⟩
      rw [e2 k (by omega), swp_other d (j + 1) j k (by omega) (by omega)]
    · exact ⟨rfl, fun _ _ => rfl⟩
theorem inner_all {lt : α → α → Bool} {P : α → Prop} (a : Nat) : ∀ (j : Nat) (d : Array α), j < d.size → (∀ p, a ≤ p → p ≤ j → P d[p]!) → ∀ p, a ≤ p → p ≤ j → P (insInner lt a j d)[p]! := by
  intro j
  induction j with
  | zero => intro d _ h p h1 h2; exact h p h1 h2
  | succ j ih =>
    intro d hs h p h1 h2
    unfold insInner
    split
    · rename_i hc
      have haj : a < j + 1 := by
        rw [Bool.and_eq_true, decide_eq_true_eq] at hc
        exact hc.1
      by_cases hp : p = j + 1
      · subst hp
        rw [(inner_other a j (swp d (j + 1) j)).2 (j + 1) (by omega), swp_left d (j + 1) j hs (by omega)]
        exact h j (by omega) (by omega)
      · refine ih (swp d (j + 1) j) (by rw [size_swp]; omega) (fun q h3 h4 => ?_) p h1 (by omega)
        by_cases hq : q = j
        · subst hq
          rw [swp_right d (q + 1) q (by omega)]
          exact h (q + 1) (by omega) (by omega)
        · rw [swp_other d (j + 1) j q (by omega) (by omega)]
          exact h q h3 (by omega)
    · exact h p h1 h2
theorem out_stop (lt : α → α → Bool) (a b i : Nat) (d : Array α) (h : ¬ i < b) : insOuter lt a b i d = d := by rw [insOuter, if_neg h]
theorem out_go (lt : α → α → Bool) (a b i : Nat) (d : Array α) (h : i < b) : insOuter lt a b i d = insOuter lt a b (i + 1) (insInner lt a i d) := by rw [insOuter, if_pos h]
theorem ins_outer_eq {lt : α → α → Bool} {key : α → Nat} (a b : Nat) : ∀ (m i : Nat) (d : Array α), m = b - i → a ≤ i → b ≤ d.size → (∀ p q, a ≤ p → p < q → i ≤ q → q < b → key d[p]! < key d[q]!) → insOuter (lt2 lt key) a b i d = insOuter lt a b i d := by
  intro m
  induction m with
  | zero => intro i d hm _ _ _; rw [out_stop (lt2 lt key) _ _ _ _ (by omega), out_stop lt _ _ _ _ (by omega)]
  | succ m ih =>
    intro i d hm hai hb h
    rw [out_go (lt2 lt key) _ _ _ _ (by omega), out_go lt _ _ _ _ (by omega), ins_inner_eq a i d (by omega) (fun p h1 h2 => h p i h1 h2 (Nat.le_refl _) (by omega))]
    obtain ⟨e1, e2⟩ := inner_other (lt := lt) a i d
    refine ih (i + 1) _ (by omega) (by omega) (by rw [e1]; exact hb) (fun p q h1 h2 h3 h4 => ?_)
    rw [e2 q (by omega)]
    by_cases hp : p ≤ i
    · exact inner_all (P := fun x => key x < key d[q]!) a i d (by omega) (fun r h5 h6 => h r q h5 (by omega) (by omega) h4) p h1 hp
    · rw [e2 p (by omega)]
      exact h p q h1 h2 (by omega) h4
theorem ins_eq {lt : α → α → Bool} {key : α → Nat} (d : Array α) (a b : Nat) (hb : b ≤ d.size) (h : ∀ p q, a ≤ p → p < q → q < b → key d[p]! < key d[q]!) : insertionSort (lt2 lt key) d a b = insertionSort lt d a b := by
  unfold insertionSort
  exact ins_outer_eq a b _ (a + 1) d rfl (by omega) hb (fun p q h1 h2 _ h4 => h p q h1 h2 h4)

/-- shifting one element up by n places, by swaps -/
def shUp : Nat → Nat → Array α → Array α
  | 0, _, d => d
  | n + 1, k, d => shUp n (k + 1) (swp d k (k + 1))
theorem shUp_facts : ∀ (n k : Nat) (d : Array α), k + n < d.size → (shUp n k d).size = d.size ∧ (∀ a b, a ≤ k → k + n < b → b ≤ d.size → PermIn a b d (shUp n k d)) ∧
    (∀ j, j < k ∨ k + n < j → (shUp n k d)[j]! = d[j]!) ∧ (∀ j, k ≤ j → j < k + n → (shUp n k d)[j]! = d[j + 1]!) ∧ (shUp n k d)[k + n]! = d[k]! := by
  intro n
  induction n with
  | zero => intro k d _; exact ⟨rfl, fun a b _ _ _ => permIn_refl _ _ _, fun _ _ => rfl, fun j h1 h2 => by omega, rfl⟩
  | succ n ih =>
    intro k d hs
    obtain ⟨e1, e2, e3, e4, e5⟩ := ih (k + 1) (swp d k (k + 1)) (by rw [size_swp]; omega)
    rw [size_swp] at e1 e2
    refine ⟨e1, fun a b h1 h2 h3 => permIn_trans _ _ _ _ _ (swp_permIn d a b k (k + 1) h1 (by omega) (by omega) (by omega) h3) (e2 a b (by omega) (by omega) h3), fun j hj => ?_, fun j h1 h2 => ?_, ?_⟩
    · show (shUp n (k + 1) (swp d k (k + 1)))[j]! = _
      rw [e3 j (by omega), swp_other d k (k + 1) j (by omega) (by omega)]
    · show (shUp n (k + 1) (swp d k (k + 1)))[j]! = _
      by_cases hj : j = k
      · subst hj; rw [e3 j (by omega), swp_left d j (j + 1) (by omega) (by omega)]
      · rw [e4 j (by omega) (by omega), swp_other d k (k + 1) (j + 1) (by omega) (by omega)]
    · show (shUp n (k + 1) (swp d k (k + 1)))[k + (n + 1)]! = _
      rw [show k + (n + 1) = k + 1 + n from by omega, e5, swp_right d k (k + 1) (by omega)]
/-- shifting one element down by n places, by swaps -/
def shDn : Nat → Nat → Array α → Array α
  | 0, _, d => d
  | n + 1, k, d => shDn n (k - 1) (swp d k (k - 1))
theorem shDn_facts : ∀ (n k : Nat) (d : Array α), n ≤ k → k < d.size → (shDn n k d).size = d.size ∧ (∀ a b, a ≤ k - n → k < b → b ≤ d.size → PermIn a b d (shDn n k d)) ∧
    (∀ j, j < k - n ∨ k < j → (shDn n k d)[j]! = d[j]!) ∧ (∀ j, k - n < j → j ≤ k → (shDn n k d)[j]! = d[j - 1]!) ∧ (shDn n k d)[k - n]! = d[k]! := by
  intro n
  induction n with
  | zero => intro k d _ _; exact ⟨rfl, fun a b _ _ _ => permIn_refl _ _ _, fun _ _ => rfl, fun j h1 h2 => by omega, rfl⟩
  | succ n ih =>
    intro k d hn hs
    obtain ⟨e1, e2, e3, e4, e5⟩ := ih (k - 1) (swp d k (k - 1)) (by omega) (by rw [size_swp]; omega)
    rw [size_swp] at e1 e2
    refine ⟨e1, fun a b h1 h2 h3 => permIn_trans _ _ _ _ _ (swp_permIn d a b k (k - 1) (by omega) h2 (by omega) (by omega) h3) (e2 a b (by omega) (by omega) h3), fun j hj => ?_, fun j h1 h2 => ?_, ?_⟩
    · show (shDn n (k - 1) (swp d k (k - 1)))[j]! = _
      rw [e3 j (by omega), swp_other d k (k - 1) j (by omega) (by omega)]
    · show (shDn n (k - 1) (swp d k (k - 1)))[j]! = _
      by_cases hj : j = k
      · subst hj; rw [e3 j (by omega), swp_left d j (j - 1) (by omega) (by omega)]
      · rw [e4 j (by omega) (by omega), swp_other d k (k - 1) (j - 1) (by omega) (by omega)]
    · show (shDn n (k - 1) (swp d k (k - 1)))[k - (n + 1)]! = _
      rw [show k - (n + 1) = k - 1 - n from by omega, e5, swp_right d k (k - 1) (by omega)]
/-- inserting the one element on the left into the sorted run on its right -/
theorem ins_left {lt : α → α → Bool} (hS : SWO lt) {a b i : Nat} {d : Array α} (hb : b ≤ d.size) (h1 : a + 1 ≤ i) (h2 : i ≤ b) (hr : SortedIn lt (a + 1) b d)
    (hlo : ∀ h, a + 1 ≤ h → h < i → lt d[h]! d[a]! = true) (hhi : ∀ h, i ≤ h → h < b → lt d[h]! d[a]! = false) (hab : a < b) :
    PermIn a b d (shUp (i - 1 - a) a d) ∧ SortedIn lt a b (shUp (i - 1 - a) a d) := by
  obtain ⟨e1, e2, e3, e4, e5⟩ := shUp_facts (i - 1 - a) a d (by omega)
  refine ⟨e2 a b (Nat.le_refl _) (by omega) hb, fun x y hx hxy hy => ?_⟩
  rw [show a + (i - 1 - a) = i - 1 from by omega] at e3 e4 e5
  by_cases c1 : y < i - 1
  · rw [e4 y (by omega) c1, e4 x hx (by omega)]
    exact hr (x + 1) (y + 1) (by omega) (by omega) (by omega)
  · by_cases c2 : y = i - 1
    · rw [c2, e5, e4 x hx (by omega)]
      have := hlo (x + 1) (by omega) (by omega)
      exact hS.asymmA this
    · rw [e3 y (by omega)]
      by_cases c3 : x < i - 1
      · rw [e4 x hx c3]; exact hr (x + 1) y (by omega) (by omega) hy
      · by_cases c4 : x = i - 1
        · rw [c4, e5]; exact hhi y (by omega) hy
        · rw [e3 x (by omega)]; exact hr x y (by omega) hxy hy
theorem ins_right {lt : α → α → Bool} (hS : SWO lt) {a m i : Nat} {d : Array α} (hb : m < d.size) (h1 : a ≤ i) (h2 : i ≤ m) (hl : SortedIn lt a m d)
    (hlo : ∀ h, a ≤ h → h < i → lt d[m]! d[h]! = false) (hhi : ∀ h, i ≤ h → h < m → lt d[m]! d[h]! = true) :
    PermIn a (m + 1) d (shDn (m - i) m d) ∧ SortedIn lt a (m + 1) (shDn (m - i) m d) := by
  obtain ⟨e1, e2, e3, e4, e5⟩ := shDn_facts (m - i) m d (by omega) hb
  rw [show m - (m - i) = i from by omega] at e2 e3 e4 e5
  refine ⟨e2 a (m + 1) h1 (by omega) (by omega), fun x y hx hxy hy => ?_⟩
  by_cases c1 : i < x
  · rw [e4 y (by omega) (by omega), e4 x c1 (by omega)]
    exact hl (x - 1) (y - 1) (by omega) (by omega) (by omega)
  · by_cases c2 : x = i
    · rw [c2, e5, e4 y (by omega) (by omega)]
      exact hS.asymmA (hhi (y - 1) (by omega) (by omega))
    · rw [e3 x (by omega)]
      by_cases c3 : y < i
      · rw [e3 y (by omega)]; exact hl x y hx hxy (by omega)
      · by_cases c4 : y = i
        · rw [c4, e5]; exact hlo x hx (by omega)
        · rw [e4 y (by omega) (by omega)]; exact hl x (y - 1) hx (by omega) (by omega)
/-- what stands at place k behind the blocks [a, m) and [m, b) have changed places -/
def rotAt (d : Array α) (a m b k : Nat) : α := if a ≤ k ∧ k < a + (b - m) then d[m + (k - a)]! else if a + (b - m) ≤ k ∧ k < b then d[k - (b - m)]! else d[k]!
/-- d' is d with two ranges of n places swapped -/
def SwR (d d' : Array α) (x y n : Nat) : Prop := d'.size = d.size ∧ ∀ k, d'[k]! = if x ≤ k ∧ k < x + n then d[y + (k - x)]! else if y ≤ k ∧ k < y + n then d[x + (k - y)]! else d[k]!
theorem SwR.zero (d : Array α) (x y : Nat) : SwR d d x y 0 := ⟨rfl, fun k => by rw [if_neg (by omega), if_neg (by omega)]⟩
theorem SwR.step {d d' : Array α} {x y n : Nat} (h : SwR d d' x y n) (hxy : x + n < y) (hs : y + n < d.size) : SwR d (swp d' (x + n) (y + n)) x y (n + 1) := by
  obtain ⟨h1, h2⟩ := h
  refine ⟨by rw [size_swp, h1], fun k => ?_⟩
  by_cases c1 : k = x + n
  · subst c1
    rw [swp_left d' _ _ (by omega) (by omega), h2, if_neg (by omega), if_neg (by omega), if_pos (by omega)]
    congr 1; omega
  · by_cases c2 : k = y + n
    · subst c2
      rw [swp_right d' _ _ (by omega), h2, if_neg (by omega), if_neg (by omega), if_neg (by omega), if_pos (by omega)]
      congr 1; omega
    · rw [swp_other d' _ _ k c1 c2, h2]
      by_cases c3 : x ≤ k ∧ k < x + n
      · rw [if_pos c3, if_pos (by omega)]
      · rw [if_neg c3, if_neg (show ¬ (x ≤ k ∧ k < x + (n + 1)) by omega)]
        by_cases c4 : y ≤ k ∧ k < y + n
        · rw [if_pos c4, if_pos (by omega)]
        · rw [if_neg c4, if_neg (by omega)]
theorem rot_gt {d d' : Array α} {m i j : Nat} (hi : j < i) (him : i ≤ m) (hj : 0 < j) (h : SwR d d' (m - i) m j) (k : Nat) : rotAt d' (m - (i - j)) m (m + j) k = rotAt d (m - i) m (m + j) k := by
  unfold rotAt
  rw [h.2, h.2, h.2]
  repeat' (first | rfl | (congr 1; omega) | omega | split)
theorem rot_lt {d d' : Array α} {m i j : Nat} (hi : i < j) (him : i ≤ m) (hj : 0 < i) (h : SwR d d' (m - i) (m + j - i) i) (k : Nat) : rotAt d' (m - i) m (m + (j - i)) k = rotAt d (m - i) m (m + j) k := by
  unfold rotAt
  rw [h.2, h.2, h.2]
  repeat' (first | rfl | (congr 1; omega) | omega | split)
theorem rot_eq {d d' : Array α} {m i : Nat} (him : i ≤ m) (h : SwR d d' (m - i) m i) (k : Nat) : d'[k]! = rotAt d (m - i) m (m + i) k := by
  unfold rotAt
  rw [h.2]
  repeat' (first | rfl | (congr 1; omega) | omega | split)
/-- the two runs that a merge begins with -/
structure Runs (lt : α → α → Bool) (key : α → Nat) (a m b : Nat) (d : Array α) : Prop where
  left : SortedIn lt a m d
  right : SortedIn lt m b d
  cross : ∀ p q, a ≤ p → p < m → m ≤ q → q < b → key d[p]! < key d[q]!
theorem sle {lt : α → α → Bool} (hS : SWO lt) {a b : Nat} {d : Array α} (h : SortedIn lt a b d) {i j : Nat} (h1 : a ≤ i) (h2 : i ≤ j) (h3 : j < b) : lt d[j]! d[i]! = false := by
  rcases Nat.eq_or_lt_of_le h2 with h4 | h4
  · subst h4; exact hS.irrefl _
  · exact h i j h1 h4 h3
theorem ssub {lt : α → α → Bool} {a b a' b' : Nat} {d : Array α} (h : SortedIn lt a b d) (h1 : a ≤ a') (h2 : b' ≤ b) : SortedIn lt a' b' d := fun i j h3 h4 h5 => h i j (by omega) h4 (by omega)
/-- what the search finds parts both runs alike -/
theorem parted {lt : α → α → Bool} {key : α → Nat} (hS : SWO lt) {a m b s mid : Nat} {d : Array α} (hl : SortedIn lt a m d) (hr : SortedIn lt m b d) (hmid : mid = (a + b) / 2) (ham : a < m) (hmb : m < b)
    (hlo : (s = (if m > mid then mid + m - b else a)) ∨ (a < s ∧ lt d[mid + m - s]! d[s - 1]! = false)) (hhi : (s = (if m > mid then mid else m)) ∨ (m < mid + m - s ∧ lt d[mid + m - 1 - s]! d[s]! = true)) (h1 : a ≤ s) (h2 : s ≤ m) (h3 : m ≤ mid + m - s) (h4 : mid + m - s ≤ b) :
    (∀ p q, a ≤ p → p < s → mid + m - s ≤ q → q < b → lt d[q]! d[p]! = false) ∧ (∀ p q, s ≤ p → p < m → m ≤ q → q < mid + m - s → lt d[p]! d[q]! = false) := by
  refine ⟨fun p q c1 c2 c3 c4 => ?_, fun p q c1 c2 c3 c4 => ?_⟩
  · rcases hlo with hlo | ⟨ho, hlo⟩
    · exfalso; split at hlo <;> omega
    · exact hS.ntrans _ _ _ (sle hS hr h3 c3 c4) (hS.ntrans _ _ _ hlo (sle hS hl c1 (show p ≤ s - 1 by omega) (by omega)))
  · rcases hhi with hhi | ⟨ho, hhi⟩
    · exfalso; split at hhi <;> omega
    · exact hS.ntrans _ _ _ (sle hS hl h1 c1 c2) (hS.ntrans _ _ _ (hS.asymmA hhi) (sle hS hr c3 (show q ≤ mid + m - 1 - s by omega) (by omega)))
/-- behind the rotation there are two pairs of runs, and nothing of the upper is less than anything of the lower -/
theorem rotated {lt : α → α → Bool} {key : α → Nat} (hS : SWO lt) {a m b s mid : Nat} {d d1 : Array α} (hR : Runs lt key a m b d) (h1 : a ≤ s) (h2 : s ≤ m) (h3 : m ≤ mid + m - s) (h4 : mid + m - s ≤ b) (hs : s ≤ mid + m)
    (hp1 : ∀ p q, a ≤ p → p < s → mid + m - s ≤ q → q < b → lt d[q]! d[p]! = false) (hp2 : ∀ p q, s ≤ p → p < m → m ≤ q → q < mid + m - s → lt d[p]! d[q]! = false)
    (he : ∀ k, d1[k]! = rotAt d s m (mid + m - s) k) :
    Runs lt key a s mid d1 ∧ Runs lt key mid (mid + m - s) b d1 ∧ ∀ p q, a ≤ p → p < mid → mid ≤ q → q < b → lt d1[q]! d1[p]! = false := by
  have g1 : ∀ k, a ≤ k → k < s → d1[k]! = d[k]! := fun k c1 c2 => by rw [he]; unfold rotAt; rw [if_neg (by omega), if_neg (by omega)]
  have g2 : ∀ k, s ≤ k → k < mid → d1[k]! = d[m + (k - s)]! := fun k c1 c2 => by rw [he]; unfold rotAt; rw [if_pos (by omega)]
  have g3 : ∀ k, mid ≤ k → k < mid + m - s → d1[k]! = d[k - (mid - s)]! := fun k c1 c2 => by rw [he]; unfold rotAt; rw [if_neg (by omega), if_pos (by omega)]; congr 1; omega
  have g4 : ∀ k, mid + m - s ≤ k → d1[k]! = d[k]! := fun k c1 => by rw [he]; unfold rotAt; rw [if_neg (by omega), if_neg (by omega)]
  refine ⟨⟨fun i j c1 c2 c3 => ?_, fun i j c1 c2 c3 => ?_, fun p q c1 c2 c3 c4 => ?_⟩, ⟨fun i j c1 c2 c3 => ?_, fun i j c1 c2 c3 => ?_, fun p q c1 c2 c3 c4 => ?_⟩, fun p q c1 c2 c3 c4 => ?_⟩
  · rw [g1 i c1 (by omega), g1 j (by omega) c3]; exact hR.left i j c1 c2 (by omega)
  · rw [g2 i c1 (by omega), g2 j (by omega) c3]; exact hR.right _ _ (by omega) (by omega) (by omega)
  · rw [g1 p c1 c2, g2 q c3 c4]; exact hR.cross _ _ c1 (by omega) (by omega) (by omega)
  · rw [g3 i c1 (by omega), g3 j (by omega) c3]; exact hR.left _ _ (by omega) (by omega) (by omega)
  · rw [g4 i c1, g4 j (by omega)]; exact hR.right i j (by omega) c2 c3
  · rw [g3 p c1 c2, g4 q c3]; exact hR.cross _ _ (by omega) (by omega) (by omega) c4
  · by_cases e1 : p < s
    · rw [g1 p c1 e1]
      by_cases e2 : q < mid + m - s
      · rw [g3 q c3 e2]; exact hR.left _ _ c1 (by omega) (by omega)
      · rw [g4 q (by omega)]; exact hp1 p q c1 e1 (by omega) c4
    · rw [g2 p (by omega) c2]
      by_cases e2 : q < mid + m - s
      · rw [g3 q c3 e2]; exact hp2 _ _ (by omega) (by omega) (by omega) (by omega)
      · rw [g4 q (by omega)]; exact hR.right _ _ (by omega) (by omega) c4
/-- two sorted halves, nothing of the upper less than anything of the lower: the whole is sorted -/
theorem halves {lt : α → α → Bool} {a mid b : Nat} {d1 d2 d3 : Array α} (ham : a ≤ mid) (hmb : mid ≤ b) (hb : b ≤ d1.size) (hall : ∀ p q, a ≤ p → p < mid → mid ≤ q → q < b → lt d1[q]! d1[p]! = false)
    (p2 : PermIn a mid d1 d2) (s2 : SortedIn lt a mid d2) (p3 : PermIn mid b d2 d3) (s3 : SortedIn lt mid b d3) : PermIn a b d1 d3 ∧ SortedIn lt a b d3 := by
  have z2 := p2.1
  refine ⟨permIn_trans _ _ _ _ _ (permIn_mono _ _ a mid a b (Nat.le_refl _) hmb hb p2) (permIn_mono _ _ mid b a b ham (Nat.le_refl _) (by omega) p3), fun i j c1 c2 c3 => ?_⟩
  by_cases e1 : j < mid
  · rw [p3.2.1 j (by omega), p3.2.1 i (by omega)]; exact s2 i j c1 c2 e1
  · by_cases e2 : i < mid
    · rw [p3.2.1 i (by omega)]
      have k1 : ∀ q, mid ≤ q → q < b → lt d2[q]! d2[i]! = false := fun q c4 c5 => by
        rw [p2.2.1 q (by omega)]
        exact permIn_all d1 d2 a mid (fun x => lt d1[q]! x = false) (by omega) p2 (fun p c6 c7 => hall p q c6 c7 c4 c5) i c1 e2
      exact permIn_all d2 d3 mid b (fun x => lt x d2[i]! = false) (by omega) p3 k1 j (by omega) c3
    · exact s3 i j (by omega) c2 c3
/-- one run alone -/
theorem Runs.lone {lt : α → α → Bool} {key : α → Nat} {a m b : Nat} {d : Array α} (h : Runs lt key a m b d) (hm : m = a ∨ m = b) : SortedIn lt a b d := by
  rcases hm with rfl | rfl
  · exact h.right
  · exact h.left
theorem pkeys {key : α → Nat} {a b lo hi : Nat} {d d' : Array α} (h : PermIn a b d d') (hb : b ≤ d.size) (hk : ∀ p, a ≤ p → p < b → lo ≤ key d[p]! ∧ key d[p]! < hi) : ∀ p, a ≤ p → p < b → lo ≤ key d'[p]! ∧ key d'[p]! < hi :=
  permIn_all d d' a b (fun x => lo ≤ key x ∧ key x < hi) hb h hk
/-- what the search for the lone element's place has found -/
theorem found_left {lt : α → α → Bool} (hS : SWO lt) {a b i : Nat} {d : Array α} (hr : SortedIn lt (a + 1) b d) (h1 : a + 1 ≤ i) (h2 : i ≤ b)
    (hlo : i = a + 1 ∨ lt d[i - 1]! d[a]! = true) (hhi : i = b ∨ lt d[i]! d[a]! = false) : (∀ h, a + 1 ≤ h → h < i → lt d[h]! d[a]! = true) ∧ (∀ h, i ≤ h → h < b → lt d[h]! d[a]! = false) := by
  refine ⟨fun h c1 c2 => ?_, fun h c1 c2 => ?_⟩
  · rcases hlo with hlo | hlo
    · omega
    · rcases Bool.eq_false_or_eq_true (lt d[h]! d[a]!) with c3 | c3
      · exact c3
      · rw [hS.ntrans _ _ _ (sle hS hr c1 (show h ≤ i - 1 by omega) (by omega)) c3] at hlo; cases hlo
  · rcases hhi with hhi | hhi
    · omega
    · exact hS.ntrans _ _ _ (sle hS hr (by omega) c1 c2) hhi
theorem found_right {lt : α → α → Bool} (hS : SWO lt) {a m i : Nat} {d : Array α} (hl : SortedIn lt a m d) (h1 : a ≤ i) (h2 : i ≤ m)
    (hlo : i = a ∨ lt d[m]! d[i - 1]! = false) (hhi : i = m ∨ lt d[m]! d[i]! = true) : (∀ h, a ≤ h → h < i → lt d[m]! d[h]! = false) ∧ (∀ h, i ≤ h → h < m → lt d[m]! d[h]! = true) := by
  refine ⟨fun h c1 c2 => ?_, fun h c1 c2 => ?_⟩
  · rcases hlo with hlo | hlo
    · omega
    · exact hS.ntrans _ _ _ hlo (sle hS hl c1 (show h ≤ i - 1 by omega) (by omega))
  · rcases hhi with hhi | hhi
    · omega
    · rcases Bool.eq_false_or_eq_true (lt d[m]! d[h]!) with c3 | c3
      · exact c3
      · rw [hS.ntrans _ _ _ c3 (sle hS hl h1 c1 c2)] at hhi; cases hhi
end Go.Proofs.YtbapkiclgkddcaaGreatDoor.Given
