/- The reference's Apportion picks the first greatest rest again and again: it makes the same parts. -/
import Derived.Test.YtcbohbeipgcfhaaMathS
import Derived.Test.YtcbohbeipgcfhaaAppC
import Derived.Test.YtcbohbeipgcfhaaGf16
import Derived.Test.YtcbohbeipgcfhaaGf17
namespace Go.Proofs.Ytcbohbeipgcfhaa.Mth
open Go.RowKit Go.Sort Go.Proofs.Ytcbohbeipgcfhaa.G Go.Proofs.Ytcbohbeipgcfhaa.Given Go.Proofs.YtcbohbeipgcfhaaW.PrintWords Go.Proofs.YtcbohbeipgcfhaaW.PrintLast Go.Proofs.YtcbohbeipgcfhaaW.PrintMore
set_option linter.unusedVariables false
theorem evS {α : Type} {g : Nat → Option α} {r : α} (h : ∀ k, g (k + 1) = some r) : Ev g r := Ev.step (f := fun _ => some r) h (Ev.now _)
theorem nxt (i : Nat) (h : i ≤ 1000) : wrap64 ((i : Int) + 1) = ((i + 1 : Nat) : Int) := by unfold wrap64; omega
/-- the order is by the rests, the greater first, equal ones by their places -/
theorem ordL_lex {a0 : Int} {l : List Int} (h : 0 < l.length) (i j : Nat) (hij : i < j) (hi : i < (ordL a0 l).length) (hj : j < (ordL a0 l).length) :
    rest a0 l (ordL a0 l)[j] < rest a0 l (ordL a0 l)[i] ∨ (rest a0 l (ordL a0 l)[j] = rest a0 l (ordL a0 l)[i] ∧ (ordL a0 l)[i] < (ordL a0 l)[j]) := by
  have hperm := ordL_perm (a0 := a0) h
  have hnd : (ordL a0 l).Nodup := hperm.nodup_iff.2 List.nodup_range
  have hne : (ordL a0 l)[i] ≠ (ordL a0 l)[j] := fun e => by
    have := (List.getElem_inj hnd).1 e
    omega
  have hz := ordA_size a0 (isum l) l (l.length - 1)
  have hl := ordL_len a0 l h
  have e1 := ins_eq (lt := ltC (cfF a0 (isum l) l (l.length - 1))) (key := fun x : Fin (l.length - 1 + 1) => x.val) (Array.ofFn fun i : Fin (l.length - 1 + 1) => i) 0 (l.length - 1 + 1) (by simp) (fun p q _ c2 c3 => by
    rw [getElem!_pos _ p (by simp; omega), getElem!_pos _ q (by simp; omega)]; simpa using c2)
  have hs := (insertionSort_holds (lt2_swo (swoF a0 (isum l) l (l.length - 1)) (fun x : Fin (l.length - 1 + 1) => x.val)) (Array.ofFn fun i : Fin (l.length - 1 + 1) => i) 0 (l.length - 1 + 1) (by omega) (by simp)).2
  rw [e1] at hs
  have hs2 : SortedIn (lt2 (ltC (cfF a0 (isum l) l (l.length - 1))) (fun x : Fin (l.length - 1 + 1) => x.val)) 0 (l.length - 1 + 1) (ordA a0 (isum l) l (l.length - 1)) := hs
  have := hs2 i j (by omega) hij (by omega)
  rw [getElem!_pos _ i (by omega), getElem!_pos _ j (by omega), lt2_false] at this
  have e (q : Nat) (hq : q < (ordL a0 l).length) : (ordL a0 l)[q] = ((ordA a0 (isum l) l (l.length - 1))[q]'(by omega)).val := by
    simp [ordL]
  rw [e i hi, e j hj] at hne ⊢
  obtain ⟨x, hx⟩ : ∃ x, (ordA a0 (isum l) l (l.length - 1))[i]'(by omega) = x := ⟨_, rfl⟩
  obtain ⟨y, hy⟩ : ∃ y, (ordA a0 (isum l) l (l.length - 1))[j]'(by omega) = y := ⟨_, rfl⟩
  rw [hx, hy] at this hne ⊢
  have t1 : ¬ cfF a0 (isum l) l (l.length - 1) y x < 0 := of_decide_eq_false this.1
  have t2 : cfF a0 (isum l) l (l.length - 1) x y < 0 ∨ x.val ≤ y.val := this.2.imp (fun h => of_decide_eq_true h) (fun h => h)
  unfold rest
  unfold cfF at t1 t2
  omega
/-- b is the first of the greatest among the first i -/
def FM (r : List Int) (i b : Nat) : Prop := b < i ∧ (∀ j, j < i → rd r j ≤ rd r b) ∧ ∀ j, j < b → rd r j < rd r b
theorem FM.unique {r : List Int} {n b c : Nat} (h1 : FM r n b) (h2 : FM r n c) : b = c := by
  have a1 := h1.2.1 c h2.1
  have a2 := h2.2.1 b h1.1
  rcases Nat.lt_trichotomy b c with h | h | h
  · have := h2.2.2 b h; omega
  · exact h
  · have := h1.2.2 c h; omega
theorem first_one (r : List Int) : FM r 1 0 := by
  refine ⟨by omega, fun j hj => ?_, fun j hj => by omega⟩
  have : j = 0 := by omega
  subst this
  exact Int.le_refl _
theorem scan_ev {out r : List Int} {x : Int} (n : Nat) (hr : r.length = n) (hn : n ≤ 1000) (R : List Int × Int)
    (hR : ∀ b : Nat, FM r n b → Ev (fun k => if 0 ≤ (b : Int) then (if (b : Int) < (out.length : Int) then (if (b : Int) < (r.length : Int) then (awardingbodyref01_Apportion.l2 k (out.set (b : Int).toNat (wrap64 ((rd out b) + 1))) (r.set (b : Int).toNat (-1)) (wrap64 (x - 1))) else (none)) else (none)) else (none)) R) :
    ∀ (m i b : Nat), m = n - i → i ≤ n → FM r i b → Ev (fun k => awardingbodyref01_Apportion.l3 k out r x b i) R := by
  intro m
  induction m with
  | zero =>
    intro i b hm hi h
    obtain rfl : i = n := by omega
    refine Ev.step (fun k => ?_) (hR b h)
    simp only [awardingbodyref01_Apportion.l3]
    rw [if_neg (by omega)]
  | succ m ih =>
    intro i b hm hi h
    have hb := h.1
    by_cases hc : rd r i > rd r b
    · refine Ev.step (fun k => ?_) (ih (i + 1) i (by omega) (by omega) ⟨by omega, fun j hj => ?_, fun j hj => ?_⟩)
      · simp only [awardingbodyref01_Apportion.l3]
        rw [if_pos (by omega), if_pos (by omega), if_pos (by omega), if_pos (by omega), if_pos hc, nxt i (by omega)]
      · rcases Nat.lt_or_ge j i with c | c
        · have := h.2.1 j c; omega
        · obtain rfl : j = i := by omega
          omega
      · have := h.2.1 j hj; omega
    · refine Ev.step (fun k => ?_) (ih (i + 1) b (by omega) (by omega) ⟨by omega, fun j hj => ?_, h.2.2⟩)
      · simp only [awardingbodyref01_Apportion.l3]
        rw [if_pos (by omega), if_pos (by omega), if_pos (by omega), if_pos (by omega), if_neg hc, nxt i (by omega)]
      · rcases Nat.lt_or_ge j i with c | c
        · exact h.2.1 j c
        · obtain rfl : j = i := by omega
          omega
/-- what the picking comes to -/
theorem pick_ev {a0 : Int} {l : List Int} (a1 : 0 ≤ a0) (a2 : a0 ≤ 1073741824) (hg : ∀ x ∈ l, bad x = false) (S1 : 1 ≤ isum l) (hpos : 0 < l.length) (h100 : l.length ≤ 100) (L : Nat) (hL : L < l.length) :
    ∀ (m t : Nat) (r : List Int), m = L - t → t ≤ L → r.length = l.length → (∀ j : Nat, j < l.length → rd r j = if j ∈ (ordL a0 l).take t then -1 else rest a0 l j) →
      Ev (fun k => awardingbodyref01_Apportion.l2 k (incs (qs a0 (isum l) l) ((ordL a0 l).take t)) r ((L - t : Nat) : Int)) (incs (qs a0 (isum l) l) ((ordL a0 l).take L), 0) := by
  have hlen := ordL_len a0 l hpos
  have hperm := ordL_perm (a0 := a0) hpos
  have hnd : (ordL a0 l).Nodup := hperm.nodup_iff.2 List.nodup_range
  have hmem : ∀ k, k ∈ ordL a0 l ↔ k < l.length := fun k => by rw [hperm.mem_iff, List.mem_range]
  have hq : (qs a0 (isum l) l).length = l.length := by simp [qs]
  intro m
  induction m with
  | zero =>
    intro t r hm ht hr hv
    obtain rfl : t = L := by omega
    refine evS (fun k => ?_)
    simp only [awardingbodyref01_Apportion.l2]
    rw [if_neg (by omega)]
  | succ m ih =>
    intro t r hm ht hr hv
    have tl : t < (ordL a0 l).length := by omega
    obtain ⟨b, hb⟩ : ∃ b, (ordL a0 l)[t] = b := ⟨_, rfl⟩
    have hbl : b < l.length := (hmem b).1 (by rw [← hb]; exact List.getElem_mem tl)
    have hpos_of : ∀ j, j < l.length → ∃ p, ∃ hp : p < (ordL a0 l).length, (ordL a0 l)[p] = j := fun j hj => List.mem_iff_getElem.1 ((hmem j).2 hj)
    have hin : ∀ p (hp : p < (ordL a0 l).length), ((ordL a0 l)[p] ∈ (ordL a0 l).take t ↔ p < t) := fun p hp => by
      constructor
      · intro h
        obtain ⟨q, hq1, hq2⟩ := List.mem_iff_getElem.1 h
        rw [List.getElem_take] at hq2
        rw [List.length_take] at hq1
        have := (List.getElem_inj hnd).1 hq2
        omega
      · intro h
        exact List.mem_iff_getElem.2 ⟨p, by rw [List.length_take]; omega, by rw [List.getElem_take]⟩
    have hbn : b ∉ (ordL a0 l).take t := by rw [← hb, hin t tl]; omega
    have hrb : rd r b = rest a0 l b := by rw [hv b hbl, if_neg hbn]
    have hfm : FM r l.length b := by
      refine ⟨hbl, fun j hj => ?_, fun j hj => ?_⟩
      · rw [hrb, hv j hj]
        obtain ⟨p, hp, hpe⟩ := hpos_of j hj
        have hb0 := (rest_bd (a0 := a0) S1 b).1
        by_cases c : p < t
        · rw [if_pos (by rw [← hpe]; exact (hin p hp).2 c)]; omega
        · rw [if_neg (by rw [← hpe, hin p hp]; exact c)]
          rcases Nat.eq_or_lt_of_le (Nat.le_of_not_lt c) with c2 | c2
          · subst c2; rw [← hpe, ← hb]; exact Int.le_refl _
          · have := ordL_lex (a0 := a0) hpos t p c2 tl hp
            rw [hb, hpe] at this
            omega
      · rw [hrb, hv j (by omega)]
        obtain ⟨p, hp, hpe⟩ := hpos_of j (by omega)
        have hb0 := (rest_bd (a0 := a0) S1 b).1
        by_cases c : p < t
        · rw [if_pos (by rw [← hpe]; exact (hin p hp).2 c)]; omega
        · rw [if_neg (by rw [← hpe, hin p hp]; exact c)]
          rcases Nat.eq_or_lt_of_le (Nat.le_of_not_lt c) with c2 | c2
          · subst c2; rw [hb] at hpe; omega
          · have := ordL_lex (a0 := a0) hpos t p c2 tl hp
            rw [hb, hpe] at this
            omega
    have hsnoc : (ordL a0 l).take (t + 1) = (ordL a0 l).take t ++ [b] := by rw [List.take_succ_eq_append_getElem tl, hb]
    have hout : rd (incs (qs a0 (isum l) l) ((ordL a0 l).take t)) b = a0 * rd l b / isum l := by
      rw [rd_incs _ _ _ (hnd.sublist (List.take_sublist _ _)) (fun k hk => by rw [hq]; exact (hmem k).1 (List.mem_of_mem_take hk)), if_neg hbn, rd_qs _ _ _ _ hbl]; omega
    have hlb := rd_good l hg b hbl
    have hle := mem_le_isum l hg (rd l b) (by rw [rd_el l b hbl]; exact List.getElem_mem hbl)
    obtain ⟨_, _, q3, q4⟩ := quo_bd a1 a2 S1 hlb.1 hle
    refine Ev.step (f := fun k => awardingbodyref01_Apportion.l3 k (incs (qs a0 (isum l) l) ((ordL a0 l).take t)) r ((L - t : Nat) : Int) ((0 : Nat) : Int) ((1 : Nat) : Int)) (fun k => ?_) ?_
    · simp only [awardingbodyref01_Apportion.l2]
      rw [if_pos (by omega)]; rfl
    refine scan_ev l.length hr (by omega) _ (fun c hc => ?_) (l.length - 1) 1 0 rfl (by omega) (first_one r)
    obtain rfl := hc.unique hfm
    have hrec := ih (t + 1) (r.set c (-1)) (by omega) (by omega) (by rw [List.length_set]; exact hr) (fun j hj => by
      rw [rd_set, hsnoc]
      by_cases cj : c = j
      · subst cj; rw [if_pos ⟨rfl, by omega⟩, if_pos (by simp)]
      · rw [if_neg (fun h => cj h.1), hv j hj]
        by_cases cm : j ∈ (ordL a0 l).take t
        · rw [if_pos cm, if_pos (List.mem_append_left _ cm)]
        · rw [if_neg cm, if_neg (fun h => by rcases List.mem_append.1 h with h | h; exact cm h; exact cj (List.mem_singleton.1 h).symm)])
    rw [hsnoc, incs_snoc, hout] at hrec
    refine Ev.congr (fun k => ?_) hrec
    rw [if_pos (by omega), if_pos (by rw [incs_len, hq]; omega), if_pos (by omega), hout, Int.toNat_natCast]
    congr 1
    · congr 1; unfold wrap64; omega
    · unfold wrap64; omega
theorem fill_ev {a0 : Int} {l : List Int} (a1 : 0 ≤ a0) (a2 : a0 ≤ 1073741824) (hg : ∀ x ∈ l, bad x = false) (S1 : 1 ≤ isum l) (h100 : l.length ≤ 100) (R : List Int × Int)
    (hR : Ev (fun k => awardingbodyref01_Apportion.l2 k (qs a0 (isum l) l) (l.map fun x => a0 * x % isum l) (a0 - isum (qs a0 (isum l) l))) R) :
    ∀ (m i : Nat), m = l.length - i → i ≤ l.length → Ev (fun k => awardingbodyref01_Apportion.l1 k a0 l (isum l) (st (qs a0 (isum l) l) l.length i) (st (l.map fun x => a0 * x % isum l) l.length i) (a0 - isum ((qs a0 (isum l) l).take i)) i) R := by
  have hq : (qs a0 (isum l) l).length = l.length := by simp [qs]
  have hr : (l.map fun x => a0 * x % isum l).length = l.length := by simp
  have hS := isum_bd l hg
  intro m
  induction m with
  | zero =>
    intro i hm hi
    obtain rfl : i = l.length := by omega
    refine Ev.step (fun k => ?_) hR
    simp only [awardingbodyref01_Apportion.l1]
    rw [if_neg (by omega), st_all _ _ hq, st_all _ _ hr, List.take_of_length_le (by omega)]
  | succ m ih =>
    intro i hm hi
    have il : i < l.length := by omega
    have hlb := rd_good l hg i il
    have hle := mem_le_isum l hg (rd l i) (by rw [rd_el l i il]; exact List.getElem_mem il)
    obtain ⟨q1, q2, q3, q4⟩ := quo_bd a1 a2 S1 hlb.1 hle
    have q5 : a0 * rd l i ≤ 1152921504606846976 := by have := Int.mul_le_mul a2 hlb.2 hlb.1 (by omega); omega
    have m0 := Int.emod_nonneg (a0 * rd l i) (show isum l ≠ 0 by omega)
    have m1 := Int.emod_lt_of_pos (a0 * rd l i) (show 0 < isum l by omega)
    have e1 : wrap64 (a0 * rd l i) = a0 * rd l i := by unfold wrap64; omega
    have e2 : Int.tdiv (a0 * rd l i) (isum l) = a0 * rd l i / isum l := Int.tdiv_eq_ediv_of_nonneg q1
    have e3 : Int.tmod (a0 * rd l i) (isum l) = a0 * rd l i % isum l := Int.tmod_eq_emod_of_nonneg q1
    have e4 : wrap64 (a0 * rd l i / isum l) = a0 * rd l i / isum l := by unfold wrap64; omega
    have e5 : rd (qs a0 (isum l) l) i = a0 * rd l i / isum l := rd_qs _ _ _ _ il
    have e6 : rd (l.map fun x => a0 * x % isum l) i = a0 * rd l i % isum l := by
      rw [rd_el _ i (by rw [hr]; exact il), List.getElem_map, rd_el l i il]
    have e7 : (st (qs a0 (isum l) l) l.length i).set i (a0 * rd l i / isum l) = st (qs a0 (isum l) l) l.length (i + 1) := by rw [← e5]; exact st_set _ _ _ hq il
    have e8 : (st (l.map fun x => a0 * x % isum l) l.length i).set i (a0 * rd l i % isum l) = st (l.map fun x => a0 * x % isum l) l.length (i + 1) := by rw [← e6]; exact st_set _ _ _ hr il
    have e9 : rd (st (qs a0 (isum l) l) l.length (i + 1)) i = a0 * rd l i / isum l := by
      rw [← e7, rd_set, if_pos ⟨rfl, by rw [st_len _ _ _ hq (by omega)]; exact il⟩]
    have qg := qs_good (a0 := a0) a1 a2 S1 hg rfl
    have b1 := isum_take_bd _ qg i
    rw [hq] at b1
    have e10 : isum ((qs a0 (isum l) l).take (i + 1)) = isum ((qs a0 (isum l) l).take i) + a0 * rd l i / isum l := by rw [isum_take _ i (by omega), e5]
    refine Ev.step (fun k => ?_) (ih (i + 1) (by omega) (by omega))
    simp only [awardingbodyref01_Apportion.l1]
    rw [if_pos (by omega), if_pos (by omega), if_neg (by omega), if_pos (by rw [st_len _ _ _ hq (by omega)]; omega), Option.bind_some, if_pos (by rw [st_len _ _ _ hr (by omega)]; omega), e1, e2, e3, e4, Int.toNat_natCast, e7, e8, e9, nxt i (by omega), e10]
    congr 1
    unfold wrap64; omega
theorem sum_ev {a0 : Int} {l : List Int} (h100 : l.length ≤ 100) (R : List Int × Int) (hR : (∀ x ∈ l, bad x = false) → isum l ≠ 0 → Ev (fun k => awardingbodyref01_Apportion.l1 k a0 l (isum l) (List.replicate l.length 0) (List.replicate l.length 0) a0 0) R) :
    ∀ (m i : Nat), m = l.length - i → i ≤ l.length → (∀ x ∈ l.take i, bad x = false) →
      Ev (fun k => awardingbodyref01_Apportion.l0 k a0 l (isum (l.take i)) i) (if l.all (fun x => !bad x) = true then (if isum l = 0 then ([], 10) else R) else ([], 2)) := by
  intro m
  induction m with
  | zero =>
    intro i hm hi ht
    rw [List.take_of_length_le (by omega)] at ht ⊢
    have hall : l.all (fun x => !bad x) = true := List.all_eq_true.2 (fun x hx => by rw [ht x hx]; rfl)
    rw [if_pos hall]
    by_cases hz : isum l = 0
    · rw [if_pos hz]
      refine evS (fun k => ?_)
      simp only [awardingbodyref01_Apportion.l0]
      rw [if_neg (by omega), if_pos hz]
    · rw [if_neg hz]
      refine Ev.step (fun k => ?_) (hR ht hz)
      simp only [awardingbodyref01_Apportion.l0]
      rw [if_neg (by omega), if_neg hz, if_pos (by omega), Int.toNat_natCast, if_pos (by omega)]
  | succ m ih =>
    intro i hm hi ht
    have il : i < l.length := by omega
    have hrd := rd_el l i il
    have hb := isum_bd (l.take i) ht
    rw [List.length_take] at hb
    by_cases hbad : bad l[i] = true
    · have hall : ¬ l.all (fun x => !bad x) = true := fun h => by
        have := List.all_eq_true.1 h l[i] (List.getElem_mem il)
        rw [hbad] at this; cases this
      rw [if_neg hall]
      simp only [bad, Bool.or_eq_true, decide_eq_true_eq] at hbad
      refine evS (fun k => ?_)
      simp only [awardingbodyref01_Apportion.l0]
      rw [if_pos (by omega), if_pos (by omega), hrd]
      by_cases h1 : l[i] < 0
      · rw [if_pos h1]
      · rw [if_neg h1, if_pos (by omega)]
    · have hbad : bad l[i] = false := by simpa using hbad
      have hb2 := hbad
      simp only [bad, Bool.or_eq_false_iff, decide_eq_false_iff_not] at hb2
      refine Ev.step (fun k => ?_) (ih (i + 1) (by omega) (by omega) (fun x hx => by
        rw [List.take_succ_eq_append_getElem il] at hx
        rcases List.mem_append.1 hx with hx | hx
        · exact ht x hx
        · rw [List.mem_singleton.1 hx]; exact hbad))
      simp only [awardingbodyref01_Apportion.l0]
      rw [if_pos (by omega), if_pos (by omega), hrd, if_neg hb2.1, if_neg (by omega), nxt i (by omega), isum_take l i il, hrd]
      congr 1
      unfold wrap64; omega
/-- both make the same parts -/
theorem fapp_ev (a0 : Int) (l : List Int) : ∃ r, ratio_Apportion.f a0 l = some r ∧ Ev (fun k => awardingbodyref01_Apportion.f k a0 l) r := by
  unfold ratio_Apportion.f
  by_cases h100 : 100 < l.length
  · rw [if_pos h100]
    refine ⟨_, rfl, Ev.congr (fun k => ?_) (Ev.now _)⟩
    unfold awardingbodyref01_Apportion.f
    rw [if_pos (by omega)]
  · rw [if_neg h100]
    by_cases hb : bad a0 = true
    · rw [if_neg (by simp [hb])]
      simp only [bad, Bool.or_eq_true, decide_eq_true_eq] at hb
      refine ⟨_, rfl, ?_⟩
      have k2 : Ev (fun k => awardingbodyref01_Apportion.j0 k a0 l true) ([], 2) := evS (fun k => by simp only [awardingbodyref01_Apportion.j0]; rw [if_pos trivial])
      refine Ev.congr (fun k => ?_) k2
      unfold awardingbodyref01_Apportion.f
      rw [if_neg (by omega)]
      by_cases h1 : a0 < 0
      · rw [if_pos h1]
      · rw [if_neg h1, decide_eq_true (show a0 > 1073741824 by omega)]
    · have hb : bad a0 = false := by simpa using hb
      have hb2 := hb
      simp only [bad, Bool.or_eq_false_iff, decide_eq_false_iff_not] at hb2
      have key := sum_ev (a0 := a0) (l := l) (by omega) (apOut a0 l, 0) (fun hg hz => by
        have hS := isum_bd l hg
        have hpos : 0 < l.length := by
          cases l with
          | nil => exact absurd rfl hz
          | cons y t => exact Nat.succ_pos _
        have S1 : 1 ≤ isum l := by omega
        obtain ⟨b1, b2⟩ := left_bd (a0 := a0) (l := l) S1 rfl hpos
        obtain ⟨L, hL⟩ := Int.eq_ofNat_of_zero_le b1
        have hp := pick_ev (a0 := a0) (l := l) (by omega) (by omega) hg S1 hpos (by omega) L (by omega) L 0 (l.map fun x => a0 * x % isum l) (by omega) (by omega) (by simp) (fun j hj => by
          rw [List.take_zero, if_neg (by simp), rd_el _ j (by simpa using hj), List.getElem_map]; unfold rest; rw [rd_el l j hj])
        rw [Nat.sub_zero, ← hL, List.take_zero] at hp
        have hf := fill_ev (a0 := a0) (l := l) (by omega) (by omega) hg S1 (by omega) (apOut a0 l, 0) (by
          unfold apOut
          rw [hL, Int.toNat_natCast, ← hL]
          exact hp) l.length 0 (by omega) (by omega)
        rw [st_zero, st_zero, show a0 - isum ((qs a0 (isum l) l).take 0) = a0 from by simp [isum]] at hf
        exact hf) l.length 0 (by omega) (by omega) (by simp)
      have hk : Ev (fun k => awardingbodyref01_Apportion.f k a0 l) (if l.all (fun x => !bad x) = true then (if isum l = 0 then ([], 10) else (apOut a0 l, 0)) else ([], 2)) := by
        refine Ev.congr (fun k => ?_) (Ev.step (g := fun k => awardingbodyref01_Apportion.j0 k a0 l false) (fun k => ?_) key)
        · unfold awardingbodyref01_Apportion.f
          rw [if_neg (by omega), if_neg hb2.1, decide_eq_false (show ¬ a0 > 1073741824 by omega)]
        · simp only [awardingbodyref01_Apportion.j0]
          rw [if_neg (by simp)]
          rfl
      refine ⟨_, ?_, hk⟩
      rw [List.all_cons, hb]
      by_cases hall : l.all (fun x => !bad x) = true
      · rw [if_pos (by rw [hall]; rfl), if_pos hall]
        by_cases hz : isum l = 0
        · rw [if_pos hz, if_pos hz]
        · rw [if_neg hz, if_neg hz]
      · rw [if_neg (by simpa using hall), if_neg hall]
theorem same_ev (xs : List Int) (h : xs.length ≤ 1000) : Ev (fun k => awardingbodylaw01_same.f k xs xs) true := by
  have key : ∀ (m i : Nat), m = xs.length - i → i ≤ xs.length → Ev (fun k => awardingbodylaw01_same.l0 k xs xs i) true := by
    intro m
    induction m with
    | zero =>
      intro i hm hi
      refine evS (fun k => ?_)
      simp only [awardingbodylaw01_same.l0]
      rw [if_neg (by omega)]
    | succ m ih =>
      intro i hm hi
      refine Ev.step (fun k => ?_) (ih (i + 1) (by omega) (by omega))
      simp only [awardingbodylaw01_same.l0]
      rw [if_pos (by omega), if_pos (by omega), if_pos (by omega), if_pos trivial, nxt i (by omega)]
  exact Ev.congr (fun k => by unfold awardingbodylaw01_same.f; rw [if_pos rfl]; rfl) (key xs.length 0 (by omega) (by omega))
end Go.Proofs.Ytcbohbeipgcfhaa.Mth
