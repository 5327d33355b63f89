/- Texts of this claim laid together: MathRd, MathRe, MathW, PureRatioParses. -/
import Derived.Test.YtbapkiclgkddcaaDoorZPn9
import Derived.Test.YtbapkiclgkddcaaDoorZPn2
import Derived.Test.YtbapkiclgkddcaaDoorZPn7
import Derived.Test.YtbapkiclgkddcaaDoorZPn3
import Derived.Test.YtbapkiclgkddcaaDoorZPn6
/- The two Parses tell the same, for every ASCII text. -/
namespace Go.Proofs.YtbapkiclgkddcaaDoor.Mth
open Go.RowKit Go.Proofs.YtbapkiclgkddcaaDoor.G Go.Proofs.YtbapkiclgkddcaaDoor.Given Go.Proofs.YtbapkiclgkddcaaDoorW.PrintWords Go.Proofs.YtbapkiclgkddcaaDoorW.PrintLast Go.Proofs.YtbapkiclgkddcaaDoorW.PrintMore
set_option linter.unusedVariables false
theorem pow_l (s : ByteArray) (neg : Bool) (n f : Nat) (hn : n < 10000000000000000000) (hf : f < 10000000000000000000) (hs : s.size ≤ 9223372036854775806) :
    ∀ (m i e : Nat), m + i = s.size → e + m ≤ 9 → Ev (fun k => r1_Parse.l0 k s neg n f ((10 ^ e : Nat) : Int) i) (red neg (n * 10 ^ (e + m) + f) (10 ^ (e + m))) := by
  intro m
  induction m with
  | zero =>
    intro i e hie he; obtain ⟨t1, t2⟩ := p10 e (by omega); rw [Nat.add_zero]; obtain ⟨T, hT⟩ : ∃ T, 10 ^ e = T := ⟨_, rfl⟩; rw [hT] at t1 t2 ⊢; have hp : n * T ≤ 10000000000000000000 * 1000000000 := Nat.mul_le_mul (by omega) t2; have hm := product_eq n T (by omega) (by omega); have ha := plus_eq (n * T) f (by omega) (by omega); rw [Nat.mod_eq_of_lt (by omega), hi_small (n := f) (by omega), lo_small (n := f) (by omega)] at ha
    have hr := fred neg (n * T + f) T (by omega) (by omega) t1 (!(hi (n * T + f) == 0) || (!(lo (n * T + f) == 0))) (by
      unfold hi lo; rw [Bool.or_eq_true, Bool.not_eq_true', Bool.not_eq_true', beq_eq_false_iff_ne, beq_eq_false_iff_ne]
      omega)
    refine Ev.step (fun k => ?_) hr; simp only [r1_Parse.l0]; rw [if_neg (by omega), hm, Option.bind_some, ha, Option.bind_some]
  | succ m ih =>
    intro i e hie he; have h := ih (i + 1) (e + 1) (by omega) (by omega); rw [show e + 1 + m = e + (m + 1) from by omega] at h; obtain ⟨t1, t2⟩ := p10 e (by omega)
    have w : IntKind.u64.wrap (((10 ^ e : Nat) : Int) * 10) = ((10 ^ (e + 1) : Nat) : Int) := by
      rw [Nat.pow_succ]; obtain ⟨T, hT⟩ : ∃ T, 10 ^ e = T := ⟨_, rfl⟩; rw [hT] at t1 t2 ⊢; rw [wu]; omega
    refine Ev.step (fun k => ?_) h; simp only [r1_Parse.l0]; rw [if_pos (by omega), w, nxb i (by omega)]
theorem jj3 (s : ByteArray) (neg : Bool) (wh be : ByteArray) (j : Nat) (hj : j + 1 + be.size = s.size) (hs : s.size ≤ 9223372036854775806) : Ev (fun k => if (num wh 19).2 = true then r1_Parse.j3 k s neg j (num wh 19).1 (num be 9).1 (!(num be 9).2) else r1_Parse.j3 k s neg j (num wh 19).1 (num be 9).1 true) (R46 neg wh be) := by
  unfold R46; have z (x y : Int) : Ev (fun k => r1_Parse.j3 k s neg j x y true) (0, 0, 7) := ev_some (fun k => by simp only [r1_Parse.j3]; rw [if_pos trivial]); rw [num_okd, num_okd]
  by_cases c1 : okd wh 19 = true
  · rw [if_pos c1, if_pos c1]
    refine Ev.congr (fun k => by rw [if_pos rfl]) ?_
    by_cases c2 : okd be 9 = true
    · rw [if_pos c2, if_pos c2]
      obtain ⟨u1, b1⟩ := va_u (by omega) c1; obtain ⟨u2, b2⟩ := va_u (by omega) c2; obtain ⟨q1, q2, q3⟩ := okd_iff c2; have h := pow_l s neg (va wh) (va be) b1 b2 hs be.size (j + 1) 0 (by omega) (by omega); rw [Nat.zero_add] at h; refine Ev.step (fun k => ?_) h; simp only [r1_Parse.j3]; rw [if_neg (by decide), nxb j (by omega)]; rfl
    · rw [if_neg c2, if_neg c2]
      exact z _ _
  · rw [if_neg c1, if_neg c1]
    exact Ev.congr (fun k => by rw [if_neg (by decide)]) (z _ _)
theorem jj0 (neg : Bool) (wh : ByteArray) : Ev (fun k => if (num wh 19).2 = true then (if neg = true then ((r1_Reduce.f k (decide ((num wh 19).1 > 0)) 0 (num wh 19).1 0 1).bind fun bt272 => (some (bt272.1, bt272.2.1, bt272.2.2))) else ((r1_Reduce.f k false 0 (num wh 19).1 0 1).bind fun bt275 => (some (bt275.1, bt275.2.1, bt275.2.2)))) else (some (0, 0, 7))) (R0 neg wh) := by
  unfold R0; rw [num_okd]
  by_cases c1 : okd wh 19 = true
  · rw [if_pos c1, if_pos c1]
    obtain ⟨u1, b1⟩ := va_u (by omega) c1; exact Ev.congr (fun k => by rw [if_pos rfl]; rfl) (fred0 neg (va wh) 1 b1 (by omega) (by omega))
  · rw [if_neg c1, if_neg c1]
    exact Ev.congr (fun k => by rw [if_neg (by decide)]) (Ev.now _)
def spec (neg : Bool) (s : ByteArray) : Int × Int × Int :=
  if 0 ≤ idx 47 s.data.toList then R47 neg (s.extract 0 (idx 47 s.data.toList).toNat) (s.extract ((idx 47 s.data.toList).toNat + 1) s.size)
  else if idx 46 s.data.toList < 0 then R0 neg s
  else R46 neg (s.extract 0 (idx 46 s.data.toList).toNat) (s.extract ((idx 46 s.data.toList).toNat + 1) s.size)
theorem j1_ev (s : ByteArray) (neg : Bool) (hs : s.size ≤ 9223372036854775806) : Ev (fun k => r1_Parse.j1 k s neg) (spec neg s) := by
  (have hl : s.data.toList.length = s.size := by simp); have g1 := idx_ge 47 s.data.toList; have g2 := idx_ge 46 s.data.toList; have i1 : Ev (fun k => r1_index.f k s 47) (idx 47 s.data.toList) := index_ev s 47 hs; have i2 : Ev (fun k => r1_index.f k s 46) (idx 46 s.data.toList) := index_ev s 46 hs; refine Ev.step (fun k => by simp only [r1_Parse.j1]; rfl) (Ev.bind i1 (Ev.bind i2 ?_)); unfold spec
  by_cases c1 : 0 ≤ idx 47 s.data.toList
  · obtain ⟨i, hi⟩ : ∃ i : Nat, idx 47 s.data.toList = i := ⟨(idx 47 s.data.toList).toNat, by omega⟩
    rw [hi] at c1 ⊢; rw [if_pos c1, Int.toNat_natCast]; refine Ev.congr (fun k => by rw [if_pos c1, if_pos c1, if_pos (by omega), nxb i (by omega), Int.toNat_natCast]) ?_; refine Ev.bind (number_ev _ 19 (by omega)) ?_; refine Ev.congr (fun k => by rw [if_pos (by omega), if_pos (by omega)]) ?_; exact Ev.bind (number_ev _ 19 (by omega)) (jj2 neg _ _)
  · rw [if_neg c1]
    by_cases c2 : idx 46 s.data.toList < 0
    · rw [if_pos c2]
      refine Ev.congr (fun k => by rw [if_neg c1, if_pos c2]) ?_; exact Ev.bind (number_ev s 19 (by omega)) (jj0 neg s)
    · rw [if_neg c2]
      obtain ⟨i, hi⟩ : ∃ i : Nat, idx 46 s.data.toList = i := ⟨(idx 46 s.data.toList).toNat, by omega⟩; rw [hi] at c2 ⊢; rw [Int.toNat_natCast]; refine Ev.congr (fun k => by rw [if_neg c1, if_neg c2, if_pos (by omega), if_pos (by omega), nxb i (by omega), Int.toNat_natCast]) ?_; refine Ev.bind (number_ev _ 19 (by omega)) ?_; refine Ev.congr (fun k => by rw [if_pos (by omega), if_pos (by omega)]) ?_; exact Ev.bind (number_ev _ 9 (by omega)) (jj3 s neg _ _ i (by rw [ByteArray.size_extract]; omega) hs)
/-! where the first of the two lies -/
theorem idx_get (c : Nat) : ∀ l : List UInt8, 0 ≤ idx c l → ∃ b, l[(idx c l).toNat]? = some b ∧ b.toNat = c := by
  intro l
  induction l with
  | nil => intro h; simp [idx] at h
  | cons b l ih =>
    intro h
    by_cases hc : b.toNat = c
    · have e : idx c (b :: l) = 0 := by simp only [idx]; rw [if_pos hc]
      rw [e]; exact ⟨b, rfl, hc⟩
    · have e2 : idx c (b :: l) = if idx c l = -1 then -1 else idx c l + 1 := by simp only [idx]; rw [if_neg hc]
      have g := idx_ge c l
      by_cases h4 : idx c l = -1
      · rw [if_pos h4] at e2; omega
      · rw [if_neg h4] at e2
        obtain ⟨x, hx, hx2⟩ := ih (by omega); refine ⟨x, ?_, hx2⟩; rw [e2, show (idx c l + 1).toNat = (idx c l).toNat + 1 from by omega, List.getElem?_cons_succ]; exact hx
theorem any_idx : ∀ l : List UInt8, (idx 47 l = -1 ∧ idx 46 l = -1 ∧ Lib.indexAny l [47, 46] = -1) ∨ (Lib.indexAny l [47, 46] = idx 47 l ∧ 0 ≤ idx 47 l ∧ (idx 46 l = -1 ∨ idx 47 l < idx 46 l)) ∨ (Lib.indexAny l [47, 46] = idx 46 l ∧ 0 ≤ idx 46 l ∧ (idx 47 l = -1 ∨ idx 46 l < idx 47 l)) := by
  intro l
  induction l with
  | nil => left; exact ⟨rfl, rfl, rfl⟩
  | cons b l ih =>
    have g1 := idx_ge 47 l; have g2 := idx_ge 46 l; have e1 : idx 47 (b :: l) = if b.toNat = 47 then 0 else if idx 47 l = -1 then -1 else idx 47 l + 1 := rfl; have e2 : idx 46 (b :: l) = if b.toNat = 46 then 0 else if idx 46 l = -1 then -1 else idx 46 l + 1 := rfl; have e3 : Lib.indexAny (b :: l) [47, 46] = if ([47, 46] : List UInt8).contains b then 0 else if Lib.indexAny l [47, 46] == -1 then -1 else Lib.indexAny l [47, 46] + 1 := rfl
    have ec : ([47, 46] : List UInt8).contains b = decide (b.toNat = 47 ∨ b.toNat = 46) := by
      rw [Bool.eq_iff_iff, decide_eq_true_eq]; simp only [List.contains_eq_mem, List.mem_cons, List.not_mem_nil, or_false, decide_eq_true_eq, ← UInt8.toNat_inj]; exact Iff.rfl
    rw [ec] at e3
    by_cases h1 : b.toNat = 47
    · rw [if_pos h1] at e1
      rw [if_neg (by omega)] at e2; rw [decide_eq_true (Or.inl h1), if_pos rfl] at e3
      right; left
      rw [e1, e3]; refine ⟨rfl, by omega, ?_⟩; rw [e2]
      split <;> omega
    · rw [if_neg h1] at e1
      by_cases h2 : b.toNat = 46
      · rw [if_pos h2] at e2
        rw [decide_eq_true (Or.inr h2), if_pos rfl] at e3
        right; right
        rw [e2, e3]; refine ⟨rfl, by omega, ?_⟩; rw [e1]
        split <;> omega
      · rw [if_neg h2] at e2
        rw [decide_eq_false (by omega), if_neg (by decide)] at e3; rcases ih with ⟨a, b', c⟩ | ⟨a, b', c⟩ | ⟨a, b', c⟩
        · left
          rw [if_pos a] at e1; rw [if_pos b'] at e2; rw [c, if_pos (by decide)] at e3; exact ⟨e1, e2, e3⟩
        · right; left
          rw [a, if_neg (by rw [beq_iff_eq]; omega)] at e3; rw [if_neg (by omega)] at e1; refine ⟨by rw [e3, e1], by omega, ?_⟩; rw [e2, e1]
          split <;> omega
        · right; right
          rw [a, if_neg (by rw [beq_iff_eq]; omega)] at e3; rw [if_neg (by omega)] at e2; refine ⟨by rw [e3, e2], by omega, ?_⟩; rw [e1, e2]
          split <;> omega
theorem idx_bt (s : ByteArray) (c i : Nat) (h : idx c s.data.toList = i) : i < s.size ∧ bt s i = (c : Int) ∧ ∃ b : UInt8, s.data.toList[i]? = some b ∧ b.toNat = c := by
  (have hl : s.data.toList.length = s.size := by simp); have g := idx_ge c s.data.toList; obtain ⟨b, hb, hc⟩ := idx_get c s.data.toList (by omega); rw [h, Int.toNat_natCast] at hb; (have hi : i < s.size := by omega); refine ⟨hi, ?_, b, hb, hc⟩; obtain ⟨h1, h2⟩ := List.getElem?_eq_some_iff.1 hb; have := (bt_list s i _ _ (List.drop_eq_getElem_cons h1)).2.1; rw [this, h2, hc]
theorem bad_okd (s : ByteArray) (m : Nat) (b : UInt8) (h : b ∈ s.data.toList) (hb : isD b = false) : okd s m = false := by
  unfold okd
  have : allD s.data.toList = false := by
    apply Bool.eq_false_iff.2; intro hh; unfold allD at hh; have := List.all_eq_true.1 hh b h; rw [hb] at this
    cases this
  rw [this, Bool.and_false]
theorem isD_bad {b : UInt8} (h : b.toNat < 48) : isD b = false := by
  unfold isD; rw [decide_eq_false (by omega), Bool.false_and]
theorem ext_mem (s : ByteArray) (a e j : Nat) (b : UInt8) (h : s.data.toList[j]? = some b) (h1 : a ≤ j) (h2 : j < e) : b ∈ (s.extract a e).data.toList := by
  have e1 : (s.extract a e).data.toList = (s.data.toList.drop a).take (e - a) := by
    rw [ByteArray.data_extract, Array.toList_extract, List.extract_eq_take_drop]
  rw [e1]; apply List.mem_of_getElem? (i := j - a); rw [List.getElem?_take_of_lt (by omega), List.getElem?_drop, show a + (j - a) = j from by omega]; exact h
theorem body_ev (s : ByteArray) (neg : Bool) (hs : s.size ≤ 1000000) :
    Ev (fun k => (strings_IndexAny.f s (⟨#[47, 46]⟩ : ByteArray)).bind fun at_ =>
    if 0 ≤ at_ then (if at_ < (s.size : Int) then (if s.size ≤ 140737488351232 then ratio_Parse.tail k neg (s.extract 0 at_.toNat) (s.extract (at_ + 1).toNat s.size) (bt s at_) else none) else none) else ratio_Parse.tail k neg s (⟨#[]⟩ : ByteArray) 0) (spec neg s) := by
  have hl : s.data.toList.length = s.size := by simp
  have he : strings_IndexAny.f s (⟨#[47, 46]⟩ : ByteArray) = some (Lib.indexAny s.data.toList [47, 46]) := by
    unfold strings_IndexAny.f; rw [if_pos ⟨by omega, rfl⟩]
  have g1 := idx_ge 47 s.data.toList; have g2 := idx_ge 46 s.data.toList; rw [he]; refine Ev.congr (fun k => by rw [Option.bind_some]) ?_; (have sz (a e : Nat) : (s.extract a e).size ≤ 9223372036854775807 := by rw [ByteArray.size_extract]; omega); unfold spec; rcases any_idx s.data.toList with ⟨a, b, c⟩ | ⟨a, b, c⟩ | ⟨a, b, c⟩
  · rw [if_neg (by omega), if_pos (by omega), c]
    exact Ev.congr (fun k => by rw [if_neg (by decide)]) (tail0 neg s _ (by omega))
  · rw [if_pos b, a]
    obtain ⟨i, hi⟩ : ∃ i : Nat, idx 47 s.data.toList = i := ⟨(idx 47 s.data.toList).toNat, by omega⟩; obtain ⟨q1, q2, q3⟩ := idx_bt s 47 i hi; rw [hi]; refine Ev.congr (fun k => by rw [if_pos (by omega), if_pos (by omega), if_pos (by omega), q2]) ?_; exact tail47 neg _ _ (sz _ _) (sz _ _)
  · obtain ⟨j, hj⟩ : ∃ j : Nat, idx 46 s.data.toList = j := ⟨(idx 46 s.data.toList).toNat, by omega⟩
    obtain ⟨q1, q2, x, q3, q4⟩ := idx_bt s 46 j hj; rw [a]; rcases c with c | c
    · rw [if_neg (by omega), if_neg (by omega), hj]
      refine Ev.congr (fun k => by rw [if_pos (by omega), if_pos (by omega), if_pos (by omega), q2]) ?_; exact tail46 neg _ _ (sz _ _) (sz _ _)
    · rw [if_pos (by omega)]
      obtain ⟨i, hi⟩ : ∃ i : Nat, idx 47 s.data.toList = i := ⟨(idx 47 s.data.toList).toNat, by omega⟩; obtain ⟨r1, r2, y, r3, r4⟩ := idx_bt s 47 i hi
      have w1 : R47 neg (s.extract 0 (idx 47 s.data.toList).toNat) (s.extract ((idx 47 s.data.toList).toNat + 1) s.size) = (0, 0, 7) := by
        unfold R47; rw [if_neg]; rw [bad_okd _ 19 x (ext_mem s _ _ j x q3 (by omega) (by omega)) (isD_bad (by omega))]
        decide
      have w2 : R46 neg (s.extract 0 j) (s.extract (j + 1) s.size) = (0, 0, 7) := by
        unfold R46; rw [bad_okd (s.extract (j + 1) s.size) 9 y (ext_mem s _ _ i y r3 (by omega) (by omega)) (isD_bad (by omega))]
        split <;> rfl
      rw [w1, ← w2, hj]; refine Ev.congr (fun k => by rw [if_pos (by omega), if_pos (by omega), if_pos (by omega), q2]) ?_; exact tail46 neg _ _ (sz _ _) (sz _ _)
end Go.Proofs.YtbapkiclgkddcaaDoor.Mth

/- Parse and the reference's Parse: the same answer, and the law over the tape. -/
namespace Go.Proofs.YtbapkiclgkddcaaDoor.Mth
open Go.RowKit Go.Proofs.YtbapkiclgkddcaaDoor.G Go.Proofs.YtbapkiclgkddcaaDoor.Given Go.Proofs.YtbapkiclgkddcaaDoorW.PrintWords Go.Proofs.YtbapkiclgkddcaaDoorW.PrintLast Go.Proofs.YtbapkiclgkddcaaDoorW.PrintMore
set_option linter.unusedVariables false
def good (B : Nat) (s : ByteArray) : Prop := asciiB s.data.toList = true ∧ s.size ≤ B
theorem good_append {B C : Nat} {s t : ByteArray} (h : good B s) (g : good C t) : good (B + C) (s ++ t) := by
  refine ⟨?_, ?_⟩
  · have : (s ++ t).data.toList = s.data.toList ++ t.data.toList := by simp
    rw [this]; unfold asciiB; rw [List.all_append, Bool.and_eq_true]; exact ⟨h.1, g.1⟩
  · have := h.2
    have := g.2; rw [ByteArray.size_append]; omega
theorem good_tail {B : Nat} {s : ByteArray} (h : good B s) (a e : Nat) : asciiB (s.extract a e).data.toList = true := by
  have e1 : (s.extract a e).data.toList = (s.data.toList.drop a).take (e - a) := by
    rw [ByteArray.data_extract, Array.toList_extract, List.extract_eq_take_drop]
  rw [e1]; have h1 := h.1; unfold asciiB at h1 ⊢; rw [List.all_eq_true] at h1 ⊢; intro x hx; exact h1 x (List.mem_of_mem_drop (List.mem_of_mem_take hx))
theorem cut_eq (s : ByteArray) : strings_CutPrefix.f s (⟨#[45]⟩ : ByteArray) = some (if (decide (0 < s.size) && (bt s 0 == 45)) = true then (s.extract 1 s.size, true) else (s, false)) := by
  unfold strings_CutPrefix.f stringslite_CutPrefix.f stringslite_HasPrefix.f; have e45 : ((⟨#[45]⟩ : ByteArray).size : Int) = 1 := rfl; rw [e45]; have hl : s.data.toList.length = s.size := by simp
  cases hs : s.data.toList with
  | nil =>
    rw [hs] at hl; (have : s.size = 0 := by simpa using hl.symm); rw [if_neg (by omega), Option.bind_some, if_neg (by decide), Option.bind_some, decide_eq_false (by omega), Bool.false_and, if_neg (by decide)]
  | cons c r =>
    obtain ⟨h1, h2, h3⟩ := bt_list s 0 c r (by rw [List.drop_zero]; exact hs); have h2' : bt s 0 = (c.toNat : Int) := h2
    have e1 : (s.extract 0 (1 : Int).toNat).toList = [c] := by
      rw [Lib.toList_data, ByteArray.data_extract, Array.toList_extract, List.extract_eq_take_drop, hs]; rfl
    (have e2 : ((⟨#[45]⟩ : ByteArray)).toList = [45] := by rw [Lib.toList_data]); rw [if_pos (by omega), if_pos (by omega), if_pos (by omega), Option.bind_some, e1, e2, decide_eq_true h1, Bool.true_and, h2']
    have e3 : (([c] : List UInt8) == [45]) = (((c.toNat : Int)) == 45) := by
      rw [Bool.eq_iff_iff, beq_iff_eq, beq_iff_eq]; constructor
      · intro h
        injection h with h4 h5; rw [h4]; rfl
      · intro h
        have : c = 45 := by
          apply UInt8.toNat_inj.1; (have : c.toNat = 45 := by omega); rw [this]; rfl
        rw [this]
    rw [e3]
    cases (((c.toNat : Int)) == 45) with
    | true =>
      rw [if_pos rfl, if_pos (by omega), if_pos (by omega), Option.bind_some, if_pos rfl]; rfl
    | false => rw [if_neg (by decide), Option.bind_some, if_neg (by decide)]
theorem both (s : ByteArray) (hz : s.size ≤ 1000000) : ∃ r, Ev (fun k => ratio_Parse.f k s) r ∧ Ev (fun k => r1_Parse.f k s) r := by
  obtain ⟨neg, hn⟩ : ∃ b, (decide (0 < s.size) && (bt s 0 == 45)) = b := ⟨_, rfl⟩; have hc := cut_eq s; rw [hn] at hc
  have hj : ∀ k, r1_Parse.f k s = r1_Parse.j0 k s neg := by
    intro k; unfold r1_Parse.f
    by_cases c : 0 < s.size
    · rw [decide_eq_true c, Bool.true_and] at hn
      rw [if_pos (by omega), if_pos (by omega), hn]
    · rw [decide_eq_false c, Bool.false_and] at hn
      rw [if_neg (by omega), hn]
  cases neg with
  | true =>
    rw [if_pos rfl] at hc; have sz : (s.extract 1 s.size).size ≤ 1000000 := by rw [ByteArray.size_extract]; omega
    have c : 0 < s.size := by
      apply Decidable.byContradiction; intro c; rw [decide_eq_false c, Bool.false_and] at hn
      cases hn
    refine ⟨spec true (s.extract 1 s.size), ?_, ?_⟩
    · refine Ev.congr (fun k => by unfold ratio_Parse.f; rw [hc, Option.bind_some]) ?_
      exact body_ev (s.extract 1 s.size) true sz
    · refine Ev.congr hj (Ev.step (fun k => ?_) (j1_ev (s.extract 1 s.size) true (by omega)))
      simp only [r1_Parse.j0]; rw [if_pos trivial, if_pos (by omega)]
  | false =>
    rw [if_neg (by decide)] at hc; refine ⟨spec false s, ?_, ?_⟩
    · refine Ev.congr (fun k => by unfold ratio_Parse.f; rw [hc, Option.bind_some]) ?_
      exact body_ev s false hz
    · refine Ev.congr hj (Ev.step (fun k => ?_) (j1_ev s false (by omega)))
      simp only [r1_Parse.j0]; rw [if_neg (by decide)]
end Go.Proofs.YtbapkiclgkddcaaDoor.Mth

/- The examples of the chapter: what every law asks beside its own matter. -/
namespace Go.Proofs.YtbapkiclgkddcaaDoor.Mth
open Go.RowKit Go.Proofs.YtbapkiclgkddcaaDoor.G Go.Proofs.YtbapkiclgkddcaaDoor.Given Go.Proofs.YtbapkiclgkddcaaDoorW.PrintWords Go.Proofs.YtbapkiclgkddcaaDoorW.PrintLast Go.Proofs.YtbapkiclgkddcaaDoorW.PrintMore
theorem app_ex : ratio_Apportion.f 3 [5, 3, 0] = some ([2, 1, 0], 0) := by decide +kernel
theorem awake_ev : Ev (fun k => awardingbodylaw01_awake.f k) true := by
  have h := rnew_ev (a := 6) (b := -4) (by unfold I64; omega) (by unfold I64; omega); rw [show newR 6 (-4) = (-3, 2, 0) from by decide +kernel] at h; refine Ev.congr (fun k => by unfold awardingbodylaw01_awake.f; rfl) ?_; refine Ev.bind h ?_; refine ev_some (fun k => ?_); rw [app_ex]
  decide
/-- a law's last step: the chapter's examples -/
theorem awake_end : Ev (fun k => (awardingbodylaw01_awake.f k).bind fun t => some t) true := Ev.bind (f := fun _ t => some t) awake_ev (Ev.now _)
end Go.Proofs.YtbapkiclgkddcaaDoor.Mth

/- The law: both Parses tell the same of every text of at most 60 bytes. -/
namespace Go.Proofs.YtbapkiclgkddcaaDoor.Pure
open Go.RowKit Go.Proofs.YtbapkiclgkddcaaDoor.G Go.Proofs.YtbapkiclgkddcaaDoor.Given Go.Proofs.YtbapkiclgkddcaaDoor.Mth Go.Proofs.YtbapkiclgkddcaaDoorW.PrintWords Go.Proofs.YtbapkiclgkddcaaDoorW.PrintLast
theorem RatioParses : awardingbodylaw01_RatioParses.Pure := by
  intro s _
  have goal : Ev (fun k => awardingbodylaw01_RatioParses.f k s) true := by
    unfold awardingbodylaw01_RatioParses.f
    by_cases c : (s.size : Int) > 60
    · exact Ev.congr (f := fun _ => some true) (fun k => by rw [if_pos c]) (Ev.now _)
    · refine Ev.congr (fun k => by rw [if_neg c]) ?_
      obtain ⟨r, h1, h2⟩ := both s (by omega); refine Ev.bind h1 (Ev.bind h2 ?_); refine Ev.congr (fun k => by rw [if_pos (by rw [beq_self_eq_true, beq_self_eq_true]; rfl), if_pos rfl]) awake_end
  obtain ⟨K, hK⟩ := goal; exact ⟨K, hK K (Nat.le_refl _)⟩
end Go.Proofs.YtbapkiclgkddcaaDoor.Pure
