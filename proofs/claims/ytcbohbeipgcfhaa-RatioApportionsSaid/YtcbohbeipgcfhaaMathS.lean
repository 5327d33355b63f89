/- The parts that Apportion makes by largest remainders (fewer than 20 weights): what each is, that they add up, and who gets one more. -/
import Derived.Sort.LotA
import Derived.Test.YtcbohbeipgcfhaaApp
namespace Go.Proofs.Ytcbohbeipgcfhaa.Mth
open Go.RowKit Go.Sort Go.Proofs.Ytcbohbeipgcfhaa.Given Go.Proofs.YtcbohbeipgcfhaaW.PrintWords Go.Proofs.YtcbohbeipgcfhaaW.PrintLast Go.Proofs.YtcbohbeipgcfhaaW.PrintMore
set_option linter.unusedVariables false

/-- the rest of the k-th weight -/
def rest (a0 : Int) (l : List Int) (k : Nat) : Int := a0 * rd l k % isum l
theorem swo (a0 S : Int) (l : List Int) (m : Nat) : SWO (ltC (cfF a0 S l m)) := by
  refine ⟨fun x => ?_, fun x y z h1 h2 => ?_, fun x y z h1 h2 => ?_⟩
  · simp [ltC, cfF]
  · have g1 : cfF a0 S l m x y < 0 := of_decide_eq_true h1
    have g2 : cfF a0 S l m y z < 0 := of_decide_eq_true h2
    exact decide_eq_true (show cfF a0 S l m x z < 0 by unfold cfF at *; omega)
  · have g1 : ¬ cfF a0 S l m x y < 0 := of_decide_eq_false h1
    have g2 : ¬ cfF a0 S l m y z < 0 := of_decide_eq_false h2
    exact decide_eq_false (show ¬ cfF a0 S l m x z < 0 by unfold cfF at *; omega)
theorem ordA_facts (a0 S : Int) (l : List Int) (m : Nat) :
    PermIn 0 (m + 1) (Array.ofFn fun i : Fin (m + 1) => i) (ordA a0 S l m) ∧ SortedIn (ltC (cfF a0 S l m)) 0 (m + 1) (ordA a0 S l m) :=
  insertionSort_holds (swo a0 S l m) _ 0 (m + 1) (by omega) (by simp)
theorem whole {α : Type} (A : Array α) (n : Nat) (h : A.size = n) : A.extract 0 n = A := by subst h; exact Array.extract_size
theorem ids (n : Nat) : (Array.ofFn fun i : Fin n => i).toList.map Fin.val = List.range n := by
  apply List.ext_getElem
  · simp
  · intro i h1 h2; simp
theorem ordL_perm {a0 : Int} {l : List Int} (h : 0 < l.length) : (ordL a0 l).Perm (List.range l.length) := by
  obtain ⟨m, hm⟩ : ∃ m, l.length = m + 1 := ⟨l.length - 1, by omega⟩
  unfold ordL
  rw [hm, Nat.add_sub_cancel]
  have h1 := (ordA_facts a0 (isum l) l m).1
  obtain ⟨hs, _, hp⟩ := h1
  rw [whole _ _ (ordA_size a0 (isum l) l m), whole _ (m + 1) (by simp)] at hp
  exact (hp.map Fin.val).trans (List.Perm.of_eq (ids (m + 1)))
theorem ordL_sorted {a0 : Int} {l : List Int} (h : 0 < l.length) (i j : Nat) (hij : i < j) (hi : i < (ordL a0 l).length) (hj : j < (ordL a0 l).length) : rest a0 l (ordL a0 l)[j] ≤ rest a0 l (ordL a0 l)[i] := by
  have hs := (ordA_facts a0 (isum l) l (l.length - 1)).2
  have hz := ordA_size a0 (isum l) l (l.length - 1)
  have hl := ordL_len a0 l h
  have := hs i j (by omega) hij (by omega)
  rw [getElem!_pos _ i (by omega), getElem!_pos _ j (by omega)] at this
  have this : ¬ cfF a0 (isum l) l (l.length - 1) _ _ < 0 := of_decide_eq_false this
  have e (q : Nat) (hq : q < (ordL a0 l).length) : (ordL a0 l)[q] = ((ordA a0 (isum l) l (l.length - 1))[q]'(by omega)).val := by
    simp [ordL]
  rw [e i hi, e j hj]
  unfold rest
  unfold cfF at this
  omega

theorem isum_perm {xs ys : List Int} (h : xs.Perm ys) : isum xs = isum ys := by
  induction h with
  | nil => rfl
  | cons x _ ih => simp only [isum, ih]
  | swap x y l => simp only [isum]; omega
  | trans _ _ ih1 ih2 => exact ih1.trans ih2
theorem isum_append (xs ys : List Int) : isum (xs ++ ys) = isum xs + isum ys := by
  induction xs with
  | nil => simp [isum]
  | cons x xs ih => simp only [List.cons_append, isum, ih]; omega
theorem isum_zero {xs : List Int} (h : ∀ x ∈ xs, x = 0) : isum xs = 0 := by
  induction xs with
  | nil => rfl
  | cons x xs ih => rw [isum, h x List.mem_cons_self, ih (fun y hy => h y (List.mem_cons_of_mem _ hy))]; rfl
theorem isum_le {xs : List Int} {b : Int} (h : ∀ x ∈ xs, x ≤ b) : isum xs ≤ b * xs.length := by
  induction xs with
  | nil => simp [isum]
  | cons x xs ih =>
    have h1 := h x List.mem_cons_self
    have h2 := ih (fun y hy => h y (List.mem_cons_of_mem _ hy))
    simp only [isum, List.length_cons, Int.natCast_add, Int.mul_add]
    omega
theorem rd_el (l : List Int) (k : Nat) (hk : k < l.length) : rd l k = l[k] := by simp [rd, List.getElem?_eq_getElem hk]
theorem map_rd (l : List Int) (f : Int → Int) : (List.range l.length).map (fun (k : Nat) => f (rd l k)) = l.map f := by
  apply List.ext_getElem
  · simp
  · intro i h1 h2
    simp only [List.getElem_map, List.getElem_range]
    rw [rd_el l i (by simpa using h1)]
/-- the rests add up to what is left, S times -/
theorem rests_sum (a0 S : Int) (l : List Int) : S * isum (qs a0 S l) + isum (l.map fun x => a0 * x % S) = a0 * isum l := by
  induction l with
  | nil => simp [qs, isum]
  | cons x l ih =>
    simp only [qs, List.map_cons, isum] at ih ⊢
    have := Int.mul_ediv_add_emod (a0 * x) S
    rw [Int.mul_add, Int.mul_add]
    omega
theorem rest_bd {a0 : Int} {l : List Int} (S1 : 1 ≤ isum l) (k : Nat) : 0 ≤ rest a0 l k ∧ rest a0 l k ≤ isum l - 1 := by
  unfold rest
  have h1 := Int.emod_nonneg (a0 * rd l k) (show isum l ≠ 0 by omega)
  have h2 := Int.emod_lt_of_pos (a0 * rd l k) (show 0 < isum l by omega)
  omega
theorem ord_rests {a0 : Int} {l : List Int} (hpos : 0 < l.length) : isum ((ordL a0 l).map (rest a0 l)) = isum l * (a0 - isum (qs a0 (isum l) l)) := by
  have h1 := isum_perm ((ordL_perm (a0 := a0) hpos).map (rest a0 l))
  have h2 := map_rd l (fun x => a0 * x % isum l)
  rw [h1, show (List.range l.length).map (rest a0 l) = l.map (fun x => a0 * x % isum l) from h2]
  have h3 := rests_sum a0 (isum l) l
  rw [Int.mul_sub, Int.mul_comm (isum l) a0]
  omega
/-- who gets one more has a rest above 0 -/
theorem chosen_pos {a0 : Int} {l : List Int} (S1 : 1 ≤ isum l) (hpos : 0 < l.length) (L p : Nat) (hL : a0 - isum (qs a0 (isum l) l) = L) (hp : p < L) (hpl : p < (ordL a0 l).length) : 0 < rest a0 l (ordL a0 l)[p] := by
  rcases Int.lt_or_le 0 (rest a0 l (ordL a0 l)[p]) with h | h
  · exact h
  · exfalso
    have h1 := ord_rests (a0 := a0) hpos
    rw [hL, ← List.take_append_drop p (ordL a0 l), List.map_append, isum_append] at h1
    have hz : isum (((ordL a0 l).drop p).map (rest a0 l)) = 0 := isum_zero (fun x hx => by
      obtain ⟨k, hk, rfl⟩ := List.mem_map.1 hx
      obtain ⟨j, hj, rfl⟩ := List.mem_iff_getElem.1 hk
      have hb := (rest_bd (a0 := a0) S1 ((ordL a0 l).drop p)[j]).1
      rw [List.getElem_drop] at hb ⊢
      have hj2 : p + j < (ordL a0 l).length := by rw [List.length_drop] at hj; omega
      rcases Nat.eq_zero_or_pos j with rfl | hj0
      · have : rest a0 l (ordL a0 l)[p + 0] = rest a0 l (ordL a0 l)[p] := rfl
        omega
      · have := ordL_sorted (a0 := a0) hpos p (p + j) (by omega) hpl hj2
        omega)
    have ht : isum (((ordL a0 l).take p).map (rest a0 l)) ≤ (isum l - 1) * p := by
      have := isum_le (xs := ((ordL a0 l).take p).map (rest a0 l)) (b := isum l - 1) (fun x hx => by
        obtain ⟨k, _, rfl⟩ := List.mem_map.1 hx
        exact (rest_bd (a0 := a0) S1 k).2)
      rwa [List.length_map, List.length_take, Nat.min_eq_left (by omega)] at this
    have h4 : (isum l - 1) * (p : Int) = isum l * p - p := by rw [Int.sub_mul, Int.one_mul]
    have h5 : isum l * ((p : Int) + 1) ≤ isum l * (L : Int) := Int.mul_le_mul_of_nonneg_left (by omega) (by omega)
    rw [Int.mul_add, Int.mul_one] at h5
    omega

theorem rd_incs (ks : List Nat) : ∀ (out : List Int) (j : Nat), ks.Nodup → (∀ k ∈ ks, k < out.length) → rd (incs out ks) j = rd out j + (if j ∈ ks then 1 else 0) := by
  induction ks with
  | nil => intro out j _ _; simp [incs]
  | cons k ks ih =>
    intro out j hn hk
    rw [List.nodup_cons] at hn
    have hk0 := hk k List.mem_cons_self
    have e : incs out (k :: ks) = incs (out.set k (rd out k + 1)) ks := rfl
    rw [e, ih _ j hn.2 (fun x hx => by rw [List.length_set]; exact hk x (List.mem_cons_of_mem _ hx)), rd_set]
    by_cases h : k = j
    · subst h
      rw [if_pos ⟨rfl, hk0⟩, if_neg hn.1, if_pos List.mem_cons_self]; omega
    · rw [if_neg (fun c => h c.1)]
      by_cases h2 : j ∈ ks
      · rw [if_pos h2, if_pos (List.mem_cons_of_mem _ h2)]
      · rw [if_neg h2, if_neg (fun c => by rcases List.mem_cons.1 c with c | c; exact h c.symm; exact h2 c)]
theorem isum_set (l : List Int) : ∀ (k : Nat) (x : Int), k < l.length → isum (l.set k x) = isum l - rd l k + x := by
  induction l with
  | nil => intro k x h; simp at h
  | cons y l ih =>
    intro k x h
    cases k with
    | zero => simp only [List.set_cons_zero, isum]; rw [rd_el _ _ h]; simp; omega
    | succ k =>
      simp only [List.set_cons_succ, isum]
      rw [ih k x (by simpa using h), rd_el _ _ h, rd_el l k (by simpa using h), List.getElem_cons_succ]
      omega
theorem isum_incs (ks : List Nat) : ∀ (out : List Int), (∀ k ∈ ks, k < out.length) → isum (incs out ks) = isum out + ks.length := by
  induction ks with
  | nil => intro out _; simp [incs]
  | cons k ks ih =>
    intro out hk
    have e : incs out (k :: ks) = incs (out.set k (rd out k + 1)) ks := rfl
    rw [e, ih _ (fun x hx => by rw [List.length_set]; exact hk x (List.mem_cons_of_mem _ hx)), isum_set _ _ _ (hk k List.mem_cons_self), List.length_cons]
    omega

/-- the parts: their number, their sum, and each -/
theorem parts {a0 : Int} {l : List Int} (S1 : 1 ≤ isum l) (hpos : 0 < l.length) :
    (apOut a0 l).length = l.length ∧ isum (apOut a0 l) = a0 ∧
    ∃ e : Nat → Int, (∀ k, k < l.length → rd (apOut a0 l) k = a0 * rd l k / isum l + e k) ∧ (∀ k, e k = 0 ∨ e k = 1 ∧ 0 < rest a0 l k) ∧
      (∀ i k, i < l.length → k < l.length → rest a0 l k < rest a0 l i → e k ≤ e i) := by
  obtain ⟨b1, b2⟩ := left_bd (a0 := a0) (l := l) S1 rfl hpos
  obtain ⟨L, hL⟩ := Int.eq_ofNat_of_zero_le b1
  have hlen := ordL_len a0 l hpos
  have hperm := ordL_perm (a0 := a0) hpos
  have hnd : (ordL a0 l).Nodup := hperm.nodup_iff.2 List.nodup_range
  have hmem : ∀ k, k ∈ ordL a0 l ↔ k < l.length := fun k => by rw [hperm.mem_iff, List.mem_range]
  have hndt : ((ordL a0 l).take L).Nodup := hnd.sublist (List.take_sublist _ _)
  have hkt : ∀ k ∈ (ordL a0 l).take L, k < (qs a0 (isum l) l).length := fun k hk => by
    simp only [qs, List.length_map]; exact (hmem k).1 (List.mem_of_mem_take hk)
  have eA : apOut a0 l = incs (qs a0 (isum l) l) ((ordL a0 l).take L) := by unfold apOut; rw [hL]; rfl
  refine ⟨by rw [eA, incs_len]; simp [qs], ?_, fun k => if k ∈ (ordL a0 l).take L then 1 else 0, fun k hk => ?_, fun k => ?_, fun i k hi hk hr => ?_⟩
  · rw [eA, isum_incs _ _ hkt, List.length_take, Nat.min_eq_left (by omega)]; omega
  · rw [eA, rd_incs _ _ _ hndt hkt, rd_qs _ _ _ _ hk]
  · by_cases h : k ∈ (ordL a0 l).take L
    · right
      refine ⟨if_pos h, ?_⟩
      obtain ⟨p, hp, rfl⟩ := List.mem_iff_getElem.1 h
      rw [List.getElem_take]
      rw [List.length_take] at hp
      exact chosen_pos S1 hpos L p hL (by omega) (by omega)
    · left; exact if_neg h
  · show (if k ∈ (ordL a0 l).take L then (1 : Int) else 0) ≤ if i ∈ (ordL a0 l).take L then 1 else 0
    by_cases h : k ∈ (ordL a0 l).take L
    · rw [if_pos h]
      obtain ⟨p, hp, hpe⟩ := List.mem_iff_getElem.1 h
      rw [List.getElem_take] at hpe
      rw [List.length_take] at hp
      obtain ⟨j, hj, hje⟩ := List.mem_iff_getElem.1 ((hmem i).2 hi)
      have hjp : j < p := by
        rcases Nat.lt_or_ge j p with h2 | h2
        · exact h2
        · exfalso
          rcases Nat.eq_or_lt_of_le h2 with h3 | h3
          · subst h3; rw [hpe] at hje; subst hje; omega
          · have := ordL_sorted (a0 := a0) hpos p j h3 (by omega) hj
            rw [hpe, hje] at this; omega
      rw [if_pos (List.mem_iff_getElem.2 ⟨j, by rw [List.length_take]; omega, by rw [List.getElem_take]; exact hje⟩)]
      omega
    · rw [if_neg h]; split <;> omega
end Go.Proofs.Ytcbohbeipgcfhaa.Mth
