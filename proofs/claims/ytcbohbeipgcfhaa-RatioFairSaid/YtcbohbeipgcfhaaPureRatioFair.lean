/- RatioFair: for every tape and total the parts of Apportion add up to the total, each differs by less than 1 from its exact share, and a greater weight never gets less. -/
import Derived.Test.YtcbohbeipgcfhaaGf4
import Derived.Test.YtcbohbeipgcfhaaMathT
import Derived.Test.YtcbohbeipgcfhaaMathS
import Derived.Test.YtcbohbeipgcfhaaMathW
namespace Go.Proofs.Ytcbohbeipgcfhaa.Pure
open Go.RowKit Go.Proofs.Ytcbohbeipgcfhaa.G Go.Proofs.Ytcbohbeipgcfhaa.Mth Go.Proofs.Ytcbohbeipgcfhaa.Given Go.Proofs.YtcbohbeipgcfhaaW.PrintWords Go.Proofs.YtcbohbeipgcfhaaW.PrintLast
set_option linter.unusedVariables false

/-- the drawn weights -/
theorem ints_ok {t : List Int} (n : Nat) : ∀ (p : Int) (xs : List Int), TapeOk t p → xs.length + n ≤ 8 → (∀ x ∈ xs, 0 ≤ x ∧ x ≤ 60) →
    ∃ ys p', Ev (fun k => awardingbodymake_Tape_Ints.l0 k 0 60 xs n t p) (ys, p') ∧ ys.length ≤ 8 ∧ ∀ x ∈ ys, 0 ≤ x ∧ x ≤ 60 := by
  induction n with
  | zero =>
    intro p xs h hn hx
    refine ⟨xs, p, ev_some (fun k => ?_), by omega, hx⟩
    simp only [awardingbodymake_Tape_Ints.l0]
    rw [if_neg (by simp)]
  | succ n ih =>
    intro p xs h hn hx
    obtain ⟨x, p1, e1, h1, x0, x1⟩ := range_ok (lo := 0) (hi := 60) h (by omega) (by omega) (by omega)
    obtain ⟨ys, p', e, r⟩ := ih p1 (xs ++ [x]) h1 (by simp; omega) (fun y hy => by
      rcases List.mem_append.1 hy with hy | hy
      · exact hx y hy
      · rw [List.mem_singleton.1 hy]; omega)
    refine ⟨ys, p', Ev.step (fun k => ?_) e, r⟩
    simp only [awardingbodymake_Tape_Ints.l0]
    rw [if_pos (by omega), e1, Option.bind_some, if_pos (by omega), show wrap64 (((n + 1 : Nat) : Int) - 1) = (n : Int) from by unfold wrap64; omega]

/-- what the law asks of the parts -/
structure Fair (T S : Int) (w a : List Int) : Prop where
  len : a.length = w.length
  sum : isum a = T
  lo : ∀ i : Nat, i < w.length → T * rd w i - S < rd a i * S
  hi : ∀ i : Nat, i < w.length → rd a i * S < T * rd w i + S
  mono : ∀ i k : Nat, i < w.length → k < w.length → rd w k < rd w i → rd a k ≤ rd a i
  bd : ∀ i : Nat, 0 ≤ rd a i ∧ rd a i ≤ 1000

theorem fair_parts {T : Int} {w : List Int} (T0 : 0 ≤ T) (T1 : T ≤ 500) (hw : ∀ x ∈ w, 0 ≤ x ∧ x ≤ 60) (hS : isum w ≠ 0) : Fair T (isum w) w (apOut T w) := by
  have hgood : ∀ x ∈ w, bad x = false := fun x hx => by
    have := hw x hx
    simp only [bad, Bool.or_eq_false_iff, decide_eq_false_iff_not]; omega
  have hb := isum_bd w hgood
  have S1 : 1 ≤ isum w := by omega
  have hpos : 0 < w.length := by
    cases w with
    | nil => exact absurd rfl hS
    | cons y t => exact Nat.succ_pos _
  obtain ⟨hlen, hsum, e, he, h01, hmon⟩ := parts (a0 := T) S1 hpos
  have hwk : ∀ k : Nat, k < w.length → 0 ≤ rd w k ∧ rd w k ≤ isum w := fun k hk => by
    have e1 := rd_el w k hk
    have h1 := hw w[k] (List.getElem_mem hk)
    have h2 := mem_le_isum w hgood w[k] (List.getElem_mem hk)
    rw [e1]; omega
  have dm : ∀ k : Nat, isum w * (T * rd w k / isum w) + rest T w k = T * rd w k := fun k => Int.mul_ediv_add_emod _ _
  have rb := fun k => rest_bd (a0 := T) S1 k
  obtain ⟨S, hSe⟩ : ∃ S, isum w = S := ⟨_, rfl⟩
  rw [hSe] at S1 he hwk dm rb
  have hwm : ∀ k : Nat, k < w.length → rd (apOut T w) k * S = T * rd w k - rest T w k + e k * S := fun k hk => by
    rw [he k hk, Int.add_mul, Int.mul_comm _ S]
    have := dm k
    omega
  rw [hSe]
  refine ⟨hlen, hsum, fun i hi => ?_, fun i hi => ?_, fun i k hi hk hlt => ?_, fun i => ?_⟩
  · rw [hwm i hi]
    rcases h01 i with h | ⟨h, _⟩ <;> rw [h] <;> have := rb i <;> omega
  · rw [hwm i hi]
    rcases h01 i with h | ⟨h, hp⟩ <;> rw [h] <;> have := rb i <;> omega
  · rw [he i hi, he k hk]
    have hTle : T * rd w k ≤ T * rd w i := Int.mul_le_mul_of_nonneg_left (by omega) T0
    have hq : T * rd w k / S ≤ T * rd w i / S := Int.ediv_le_ediv (by omega) hTle
    rcases Int.lt_or_le (T * rd w k / S) (T * rd w i / S) with h | h
    · have a1 : e k ≤ 1 := by rcases h01 k with h | h <;> omega
      have a2 : 0 ≤ e i := by rcases h01 i with h | h <;> omega
      omega
    · rcases h01 k with h2 | ⟨h2, h3⟩
      · have a2 : 0 ≤ e i := by rcases h01 i with h | h <;> omega
        omega
      · have hTp : T ≠ 0 := fun c => by
          have := dm k
          rw [c, Int.zero_mul, Int.zero_ediv, Int.mul_zero] at this
          rw [c] at h3; omega
        have hTlt : T * rd w k < T * rd w i := Int.mul_lt_mul_of_pos_left hlt (by omega)
        have eq : T * rd w k / S = T * rd w i / S := by omega
        have d1 := dm k
        have d2 := dm i
        rw [eq] at d1
        have := hmon i k hi hk (by omega)
        omega
  · by_cases hi : i < w.length
    · rw [he i hi]
      have h1 := hwk i hi
      have h0 : 0 ≤ T * rd w i := Int.mul_nonneg T0 h1.1
      have h2 : T * rd w i ≤ T * S := Int.mul_le_mul_of_nonneg_left h1.2 T0
      have h3 : 0 ≤ T * rd w i / S := Int.ediv_nonneg h0 (by omega)
      have h4 := Int.ediv_le_ediv (show 0 < S by omega) h2
      rw [Int.mul_ediv_cancel _ (by omega)] at h4
      rcases h01 i with h | ⟨h, _⟩ <;> omega
    · have : rd (apOut T w) i = 0 := by simp [rd, List.getElem?_eq_none (show (apOut T w).length ≤ i by omega)]
      omega

/-- the innermost loop passes -/
theorem inner_ev {T S : Int} {w a : List Int} (F : Fair T S w a) (n8 : w.length ≤ 8) (left : Int) (i : Nat) (hi : i < w.length) (h : Ev (fun k => awardingbodylaw01_RatioFair.l1 k T w S a left (i + 1)) true) :
    ∀ (d j : Nat), d = w.length - j → j ≤ w.length → Ev (fun k => awardingbodylaw01_RatioFair.l2 k T w S a left i j) true := by
  intro d
  induction d with
  | zero =>
    intro j hd hj
    refine Ev.step (fun k => ?_) h
    simp only [awardingbodylaw01_RatioFair.l2]
    rw [if_neg (by omega), show wrap64 ((i : Int) + 1) = (i : Int) + 1 from by unfold wrap64; omega]
  | succ d ih =>
    intro j hd hj
    have hnext := ih (j + 1) (by omega) (by omega)
    have fl := F.len
    refine Ev.step (fun k => ?_) hnext
    simp only [awardingbodylaw01_RatioFair.l2]
    rw [if_pos (by omega), if_pos (by omega), if_pos (by omega), if_pos (by omega), show wrap64 ((j : Int) + 1) = ((j + 1 : Nat) : Int) from by unfold wrap64; omega]
    by_cases hlt : rd w i > rd w j
    · rw [if_pos hlt, if_pos (by omega), if_pos (by omega), if_neg (by have := F.mono i j hi (by omega) hlt; omega)]
    · rw [if_neg hlt]
/-- the loop over the parts passes -/
theorem outer_ev {T S : Int} {w a : List Int} (F : Fair T S w a) (T0 : 0 ≤ T) (T1 : T ≤ 500) (n8 : w.length ≤ 8) (hw : ∀ i : Nat, 0 ≤ rd w i ∧ rd w i ≤ 60) (S0 : 1 ≤ S) (S1 : S ≤ 480) (h : Ev (fun k => (awardingbodylaw01_awake.f k).bind fun t => some t) true) :
    ∀ (d i : Nat), d = w.length - i → i ≤ w.length → Ev (fun k => awardingbodylaw01_RatioFair.l1 k T w S a (isum (a.drop i)) i) true := by
  intro d
  induction d with
  | zero =>
    intro i hd hi
    have fl := F.len
    refine Ev.step (fun k => ?_) h
    simp only [awardingbodylaw01_RatioFair.l1]
    rw [if_neg (by omega), List.drop_eq_nil_of_le (by omega), if_pos (by rfl)]
  | succ d ih =>
    intro i hd hi
    have fl := F.len
    have il : i < w.length := by omega
    have ial : i < a.length := by omega
    have hnext := ih (i + 1) (by omega) (by omega)
    have hin := inner_ev F n8 (isum (a.drop (i + 1))) i il hnext w.length 0 (by omega) (by omega)
    have hlo := F.lo i il
    have hhi := F.hi i il
    have hb := F.bd i
    have hwi := hw i
    have p1 : rd a i * S ≤ 1000 * 480 := Int.mul_le_mul hb.2 S1 (by omega) (by omega)
    have p0 : 0 ≤ rd a i * S := Int.mul_nonneg hb.1 (by omega)
    have p3 : T * rd w i ≤ 500 * 60 := Int.mul_le_mul T1 hwi.2 hwi.1 (by omega)
    have p2 : 0 ≤ T * rd w i := Int.mul_nonneg T0 hwi.1
    have hd1 : isum (a.drop i) = rd a i + isum (a.drop (i + 1)) := by
      rw [List.drop_eq_getElem_cons ial, isum, rd_el a i ial]
    have htb : 0 ≤ isum (a.drop (i + 1)) ∧ isum (a.drop (i + 1)) ≤ 1073741824 * (a.drop (i + 1)).length := isum_bd _ (fun x hx => by
      obtain ⟨q, hq, rfl⟩ := List.mem_iff_getElem.1 hx
      rw [List.getElem_drop]
      have hq2 : i + 1 + q < a.length := by rw [List.length_drop] at hq; omega
      have := F.bd (i + 1 + q)
      rw [rd_el a _ hq2] at this
      simp only [bad, Bool.or_eq_false_iff, decide_eq_false_iff_not]; omega)
    have hl8 : (a.drop (i + 1)).length ≤ 8 := by rw [List.length_drop]; omega
    obtain ⟨A, hA⟩ : ∃ A, rd a i * S = A := ⟨_, rfl⟩
    obtain ⟨B, hB⟩ : ∃ B, T * rd w i = B := ⟨_, rfl⟩
    obtain ⟨D, hD⟩ : ∃ D, isum (a.drop (i + 1)) = D := ⟨_, rfl⟩
    rw [hA] at hlo hhi p0 p1
    rw [hB] at hlo hhi p2 p3
    rw [hD] at hin hd1 htb
    have hj : Ev (fun k => awardingbodylaw01_RatioFair.j3 k T w S a D i false) true := by
      refine Ev.step (fun k => ?_) hin
      simp only [awardingbodylaw01_RatioFair.j3]
      rw [if_neg (by simp)]; rfl
    refine Ev.step (fun k => ?_) hj
    simp only [awardingbodylaw01_RatioFair.l1]
    rw [hd1, if_pos (by omega), if_pos (by omega), if_pos (by omega), hA, hB]
    rw [show wrap64 A = A from by unfold wrap64; omega, show wrap64 B = B from by unfold wrap64; omega, show wrap64 (B - S) = B - S from by unfold wrap64; omega, show wrap64 (B + S) = B + S from by unfold wrap64; omega,
      show wrap64 (rd a i + D - rd a i) = D from by unfold wrap64; omega, if_neg (by omega), show decide (A ≥ B + S) = false from decide_eq_false (by omega)]

theorem sum_ev {T : Int} {w : List Int} (n8 : w.length ≤ 8) (hw : ∀ x ∈ w, 0 ≤ x ∧ x ≤ 60)
    (h : Ev (fun k => (ratio_Apportion.f T w).bind fun bt192 => (if isum w = 0 then (if bt192.2 = 10 then (if (bt192.1.length : Int) = 0 then ((awardingbodylaw01_awake.f k).bind fun t196 => (some t196)) else (some false)) else (some false)) else (if bt192.2 = 0 then (awardingbodylaw01_RatioFair.j1 k T w (isum w) bt192.1 ((bt192.1.length : Int) != (w.length : Int))) else (awardingbodylaw01_RatioFair.j1 k T w (isum w) bt192.1 true)))) true) :
    ∀ (d i : Nat), d = w.length - i → i ≤ w.length → Ev (fun k => awardingbodylaw01_RatioFair.l0 k T w (isum (w.take i)) i) true := by
  intro d
  induction d with
  | zero =>
    intro i hd hi
    refine Ev.step (fun k => ?_) h
    simp only [awardingbodylaw01_RatioFair.l0]
    rw [if_neg (by omega), List.take_of_length_le (by omega)]
  | succ d ih =>
    intro i hd hi
    refine Ev.step (fun k => ?_) (ih (i + 1) (by omega) (by omega))
    have hgood : ∀ x ∈ w, bad x = false := fun x hx => by
      have := hw x hx
      simp only [bad, Bool.or_eq_false_iff, decide_eq_false_iff_not]; omega
    have hb := isum_take_bd w hgood i
    have il : i < w.length := by omega
    have e1 := rd_el w i il
    have h1 := hw w[i] (List.getElem_mem il)
    simp only [awardingbodylaw01_RatioFair.l0]
    rw [if_pos (by omega), if_pos (by omega), isum_take w i il, show wrap64 (isum (w.take i) + rd w i) = isum (w.take i) + rd w i from by rw [e1]; unfold wrap64; omega, show wrap64 ((i : Int) + 1) = ((i + 1 : Nat) : Int) from by unfold wrap64; omega]

theorem RatioFair : awardingbodylaw01_RatioFair.Pure := by
  intro l a1 _ _ hl ha
  obtain ⟨t, e0, h0⟩ := new_ok hl
  obtain ⟨n, p1, e1, h1, n0, n1⟩ := range_ok (lo := 0) (hi := 8) h0 (by omega) (by omega) (by omega)
  obtain ⟨m, rfl⟩ := Int.eq_ofNat_of_zero_le n0
  obtain ⟨w, p2, e2, n8, hw⟩ := ints_ok m p1 [] h1 (by simp; omega) (fun x hx => by cases hx)
  obtain ⟨T, e3, T0, T1⟩ := cut_ok (I64.of ha) (show (1 : Int) ≤ 500 by omega) (by unfold I64; omega)
  have hgood : ∀ x ∈ w, bad x = false := fun x hx => by
    have := hw x hx
    simp only [bad, Bool.or_eq_false_iff, decide_eq_false_iff_not]; omega
  have hT : bad T = false := by simp only [bad, Bool.or_eq_false_iff, decide_eq_false_iff_not]; omega
  have hall : (T :: w).all (fun x => !bad x) = true := List.all_eq_true.2 (fun x hx => by
    rcases List.mem_cons.1 hx with rfl | hx
    · rw [hT]; rfl
    · rw [hgood x hx]; rfl)
  have h : Ev (fun k => awardingbodylaw01_RatioFair.f k l a1) true := by
    refine Ev.congr (fun k => by unfold awardingbodylaw01_RatioFair.f awardingbodymake_Tape_Ints.f; rw [e0, Option.bind_some, e1, Option.bind_some]) ?_
    refine Ev.bind e2 ?_
    refine Ev.congr (fun k => by rw [e3, Option.bind_some]) ?_
    refine sum_ev n8 hw ?_ w.length 0 (by omega) (by omega)
    unfold ratio_Apportion.f
    rw [if_neg (by omega), if_pos hall]
    by_cases hS : isum w = 0
    · rw [if_pos hS]
      refine Ev.congr (fun k => ?_) awake_end
      rw [Option.bind_some, if_pos hS, if_pos rfl, if_pos (show (((([] : List Int), (10 : Int)).1.length : Nat) : Int) = 0 from rfl)]
    · have F := fair_parts T0 (by omega) hw hS
      have hb := isum_bd w hgood
      have hb2 := isum_le (xs := w) (b := 60) (fun x hx => (hw x hx).2)
      have hwi : ∀ i : Nat, 0 ≤ rd w i ∧ rd w i ≤ 60 := fun i => by
        by_cases hi : i < w.length
        · rw [rd_el w i hi]; exact hw _ (List.getElem_mem hi)
        · have : rd w i = 0 := by simp [rd, List.getElem?_eq_none (show w.length ≤ i by omega)]
          omega
      have fl := F.len
      have fin := outer_ev F T0 (by omega) n8 hwi (by omega) (by omega) awake_end w.length 0 (by omega) (by omega)
      rw [List.drop_zero, F.sum] at fin
      rw [if_neg hS, if_pos (by omega)]
      refine Ev.congr (fun k => by rw [Option.bind_some, if_neg hS, if_pos rfl]) ?_
      refine Ev.step (fun k => ?_) fin
      simp only [awardingbodylaw01_RatioFair.j1]
      rw [fl, if_neg (by simp)]; rfl
  obtain ⟨K, hK⟩ := h
  exact ⟨K, hK K (Nat.le_refl _)⟩
end Go.Proofs.Ytcbohbeipgcfhaa.Pure
