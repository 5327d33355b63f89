/- Texts of this claim laid together: MathRd, MathRe, MathT, MathB, MathBb, MathW, PureRatioBack. -/
import Derived.Test.YtbapkiclgkddcaaGreatDoorZBn7
import Derived.Test.YtbapkiclgkddcaaGreatDoorZBn6
import Derived.Test.YtbapkiclgkddcaaGreatDoorZBn4
import Derived.Lib.ItoaLen
/- The two Parses tell the same, for every ASCII text. -/
namespace Go.Proofs.YtbapkiclgkddcaaGreatDoor.Mth
open Go.RowKit Go.Proofs.YtbapkiclgkddcaaGreatDoor.G Go.Proofs.YtbapkiclgkddcaaGreatDoor.Given Go.Proofs.YtbapkiclgkddcaaGreatDoorW.PrintWords Go.Proofs.YtbapkiclgkddcaaGreatDoorW.PrintLast Go.Proofs.YtbapkiclgkddcaaGreatDoorW.PrintMore
set_option linter.unusedVariables false
def spec (neg : Bool) (s : ByteArray) : Int × Int × Int :=
  if 0 ≤ idx 47 s.data.toList then R47 neg (s.extract 0 (idx 47 s.data.toList).toNat) (s.extract ((idx 47 s.data.toList).toNat + 1) s.size)
  else if idx 46 s.data.toList < 0 then R0 neg s
  else R46 neg (s.extract 0 (idx 46 s.data.toList).toNat) (s.extract ((idx 46 s.data.toList).toNat + 1) s.size)
theorem idx_get (c : Nat) : ∀ l : List UInt8, 0 ≤ idx c l → ∃ b, l[(idx c l).toNat]? = some b ∧ b.toNat = c := by
  intro l
  induction l with
  | nil => intro h; simp [idx] at h
  | cons b l ih =>
    intro h
    by_cases hc : b.toNat = c
    · have e : idx c (b :: l) = 0 := by simp only [idx]; rw [if_pos hc]
      rw [e]; exact ⟨b, rfl, hc⟩
    · have e2 : idx c (b :: l) = if idx c l = -1 then -1 else idx c l + 1 := by simp only [idx]; rw [if_neg hc]
      have g := idx_ge c l
      by_cases h4 : idx c l = -1
      · rw [if_pos h4] at e2; omega
      · rw [if_neg h4] at e2
        obtain ⟨x, hx, hx2⟩ := ih (by omega); refine ⟨x, ?_, hx2⟩; rw [e2, show (idx c l + 1).toNat = (idx c l).toNat + 1 from by omega, List.getElem?_cons_succ]; exact hx
theorem any_idx : ∀ l : List UInt8, (idx 47 l = -1 ∧ idx 46 l = -1 ∧ Lib.indexAny l [47, 46] = -1) ∨ (Lib.indexAny l [47, 46] = idx 47 l ∧ 0 ≤ idx 47 l ∧ (idx 46 l = -1 ∨ idx 47 l < idx 46 l)) ∨ (Lib.indexAny l [47, 46] = idx 46 l ∧ 0 ≤ idx 46 l ∧ (idx 47 l = -1 ∨ idx 46 l < idx 47 l)) := by
  intro l
  induction l with
  | nil => left; exact ⟨rfl, rfl, rfl⟩
  | cons b l ih =>
    have g1 := idx_ge 47 l; have g2 := idx_ge 46 l; have e1 : idx 47 (b :: l) = if b.toNat = 47 then 0 else if idx 47 l = -1 then -1 else idx 47 l + 1 := rfl; have e2 : idx 46 (b :: l) = if b.toNat = 46 then 0 else if idx 46 l = -1 then -1 else idx 46 l + 1 := rfl; have e3 : Lib.indexAny (b :: l) [47, 46] = if ([47, 46] : List UInt8).contains b then 0 else if Lib.indexAny l [47, 46] == -1 then -1 else Lib.indexAny l [47, 46] + 1 := rfl
    have ec : ([47, 46] : List UInt8).contains b = decide (b.toNat = 47 ∨ b.toNat = 46) := by
      rw [Bool.eq_iff_iff, decide_eq_true_eq]; simp only [List.contains_eq_mem, List.mem_cons, List.not_mem_nil, or_false, decide_eq_true_eq, ← UInt8.toNat_inj]; exact Iff.rfl
    rw [ec] at e3
    by_cases h1 : b.toNat = 47
    · rw [if_pos h1] at e1
      rw [if_neg (by omega)] at e2; rw [decide_eq_true (Or.inl h1), if_pos rfl] at e3
      right; left
      rw [e1, e3]; refine ⟨rfl, by omega, ?_⟩; rw [e2]
      split <;> omega
    · rw [if_neg h1] at e1
      by_cases h2 : b.toNat = 46
      · rw [if_pos h2] at e2
        rw [decide_eq_true (Or.inr h2), if_pos rfl] at e3
        right; right
        rw [e2, e3]; refine ⟨rfl, by omega, ?_⟩; rw [e1]
        split <;> omega
      · rw [if_neg h2] at e2
        rw [decide_eq_false (by omega), if_neg (by decide)] at e3; rcases ih with ⟨a, b', c⟩ | ⟨a, b', c⟩ | ⟨a, b', c⟩
        · left
          rw [if_pos a] at e1; rw [if_pos b'] at e2; rw [c, if_pos (by decide)] at e3; exact ⟨e1, e2, e3⟩
        · right; left
          rw [a, if_neg (by rw [beq_iff_eq]; omega)] at e3; rw [if_neg (by omega)] at e1; refine ⟨by rw [e3, e1], by omega, ?_⟩; rw [e2, e1]
          split <;> omega
        · right; right
          rw [a, if_neg (by rw [beq_iff_eq]; omega)] at e3; rw [if_neg (by omega)] at e2; refine ⟨by rw [e3, e2], by omega, ?_⟩; rw [e1, e2]
          split <;> omega
theorem idx_bt (s : ByteArray) (c i : Nat) (h : idx c s.data.toList = i) : i < s.size ∧ bt s i = (c : Int) ∧ ∃ b : UInt8, s.data.toList[i]? = some b ∧ b.toNat = c := by
  (have hl : s.data.toList.length = s.size := by simp); have g := idx_ge c s.data.toList; obtain ⟨b, hb, hc⟩ := idx_get c s.data.toList (by omega); rw [h, Int.toNat_natCast] at hb; (have hi : i < s.size := by omega); refine ⟨hi, ?_, b, hb, hc⟩; obtain ⟨h1, h2⟩ := List.getElem?_eq_some_iff.1 hb; have := (bt_list s i _ _ (List.drop_eq_getElem_cons h1)).2.1; rw [this, h2, hc]
theorem bad_okd (s : ByteArray) (m : Nat) (b : UInt8) (h : b ∈ s.data.toList) (hb : isD b = false) : okd s m = false := by
  unfold okd
  have : allD s.data.toList = false := by
    apply Bool.eq_false_iff.2; intro hh; unfold allD at hh; have := List.all_eq_true.1 hh b h; rw [hb] at this
    cases this
  rw [this, Bool.and_false]
theorem isD_bad {b : UInt8} (h : b.toNat < 48) : isD b = false := by
  unfold isD; rw [decide_eq_false (by omega), Bool.false_and]
theorem ext_mem (s : ByteArray) (a e j : Nat) (b : UInt8) (h : s.data.toList[j]? = some b) (h1 : a ≤ j) (h2 : j < e) : b ∈ (s.extract a e).data.toList := by
  have e1 : (s.extract a e).data.toList = (s.data.toList.drop a).take (e - a) := by
    rw [ByteArray.data_extract, Array.toList_extract, List.extract_eq_take_drop]
  rw [e1]; apply List.mem_of_getElem? (i := j - a); rw [List.getElem?_take_of_lt (by omega), List.getElem?_drop, show a + (j - a) = j from by omega]; exact h
theorem body_ev (s : ByteArray) (neg : Bool) (hs : s.size ≤ 1000000) :
    Ev (fun k => (strings_IndexAny.f s (⟨#[47, 46]⟩ : ByteArray)).bind fun at_ =>
    if 0 ≤ at_ then (if at_ < (s.size : Int) then (if s.size ≤ 140737488351232 then ratio_Parse.tail k neg (s.extract 0 at_.toNat) (s.extract (at_ + 1).toNat s.size) (bt s at_) else none) else none) else ratio_Parse.tail k neg s (⟨#[]⟩ : ByteArray) 0) (spec neg s) := by
  have hl : s.data.toList.length = s.size := by simp
  have he : strings_IndexAny.f s (⟨#[47, 46]⟩ : ByteArray) = some (Lib.indexAny s.data.toList [47, 46]) := by
    unfold strings_IndexAny.f; rw [if_pos ⟨by omega, rfl⟩]
  have g1 := idx_ge 47 s.data.toList; have g2 := idx_ge 46 s.data.toList; rw [he]; refine Ev.congr (fun k => by rw [Option.bind_some]) ?_; (have sz (a e : Nat) : (s.extract a e).size ≤ 9223372036854775807 := by rw [ByteArray.size_extract]; omega); unfold spec; rcases any_idx s.data.toList with ⟨a, b, c⟩ | ⟨a, b, c⟩ | ⟨a, b, c⟩
  · rw [if_neg (by omega), if_pos (by omega), c]
    exact Ev.congr (fun k => by rw [if_neg (by decide)]) (tail0 neg s _ (by omega))
  · rw [if_pos b, a]
    obtain ⟨i, hi⟩ : ∃ i : Nat, idx 47 s.data.toList = i := ⟨(idx 47 s.data.toList).toNat, by omega⟩; obtain ⟨q1, q2, q3⟩ := idx_bt s 47 i hi; rw [hi]; refine Ev.congr (fun k => by rw [if_pos (by omega), if_pos (by omega), if_pos (by omega), q2]) ?_; exact tail47 neg _ _ (sz _ _) (sz _ _)
  · obtain ⟨j, hj⟩ : ∃ j : Nat, idx 46 s.data.toList = j := ⟨(idx 46 s.data.toList).toNat, by omega⟩
    obtain ⟨q1, q2, x, q3, q4⟩ := idx_bt s 46 j hj; rw [a]; rcases c with c | c
    · rw [if_neg (by omega), if_neg (by omega), hj]
      refine Ev.congr (fun k => by rw [if_pos (by omega), if_pos (by omega), if_pos (by omega), q2]) ?_; exact tail46 neg _ _ (sz _ _) (sz _ _)
    · rw [if_pos (by omega)]
      obtain ⟨i, hi⟩ : ∃ i : Nat, idx 47 s.data.toList = i := ⟨(idx 47 s.data.toList).toNat, by omega⟩; obtain ⟨r1, r2, y, r3, r4⟩ := idx_bt s 47 i hi
      have w1 : R47 neg (s.extract 0 (idx 47 s.data.toList).toNat) (s.extract ((idx 47 s.data.toList).toNat + 1) s.size) = (0, 0, 7) := by
        unfold R47; rw [if_neg]; rw [bad_okd _ 19 x (ext_mem s _ _ j x q3 (by omega) (by omega)) (isD_bad (by omega))]
        decide
      have w2 : R46 neg (s.extract 0 j) (s.extract (j + 1) s.size) = (0, 0, 7) := by
        unfold R46; rw [bad_okd (s.extract (j + 1) s.size) 9 y (ext_mem s _ _ i y r3 (by omega) (by omega)) (isD_bad (by omega))]
        split <;> rfl
      rw [w1, ← w2, hj]; refine Ev.congr (fun k => by rw [if_pos (by omega), if_pos (by omega), if_pos (by omega), q2]) ?_; exact tail46 neg _ _ (sz _ _) (sz _ _)
end Go.Proofs.YtbapkiclgkddcaaGreatDoor.Mth

/- Parse and the reference's Parse: the same answer, and the law over the tape. -/
namespace Go.Proofs.YtbapkiclgkddcaaGreatDoor.Mth
open Go.RowKit Go.Proofs.YtbapkiclgkddcaaGreatDoor.G Go.Proofs.YtbapkiclgkddcaaGreatDoor.Given Go.Proofs.YtbapkiclgkddcaaGreatDoorW.PrintWords Go.Proofs.YtbapkiclgkddcaaGreatDoorW.PrintLast Go.Proofs.YtbapkiclgkddcaaGreatDoorW.PrintMore
set_option linter.unusedVariables false
def good (B : Nat) (s : ByteArray) : Prop := asciiB s.data.toList = true ∧ s.size ≤ B
theorem good_append {B C : Nat} {s t : ByteArray} (h : good B s) (g : good C t) : good (B + C) (s ++ t) := by
  refine ⟨?_, ?_⟩
  · have : (s ++ t).data.toList = s.data.toList ++ t.data.toList := by simp
    rw [this]; unfold asciiB; rw [List.all_append, Bool.and_eq_true]; exact ⟨h.1, g.1⟩
  · have := h.2
    have := g.2; rw [ByteArray.size_append]; omega
theorem good_tail {B : Nat} {s : ByteArray} (h : good B s) (a e : Nat) : asciiB (s.extract a e).data.toList = true := by
  have e1 : (s.extract a e).data.toList = (s.data.toList.drop a).take (e - a) := by
    rw [ByteArray.data_extract, Array.toList_extract, List.extract_eq_take_drop]
  rw [e1]; have h1 := h.1; unfold asciiB at h1 ⊢; rw [List.all_eq_true] at h1 ⊢; intro x hx; exact h1 x (List.mem_of_mem_drop (List.mem_of_mem_take hx))
theorem cut_eq (s : ByteArray) : strings_CutPrefix.f s (⟨#[45]⟩ : ByteArray) = some (if (decide (0 < s.size) && (bt s 0 == 45)) = true then (s.extract 1 s.size, true) else (s, false)) := by
  unfold strings_CutPrefix.f stringslite_CutPrefix.f stringslite_HasPrefix.f; have e45 : ((⟨#[45]⟩ : ByteArray).size : Int) = 1 := rfl; rw [e45]; have hl : s.data.toList.length = s.size := by simp
  cases hs : s.data.toList with
  | nil =>
    rw [hs] at hl; (have : s.size = 0 := by simpa using hl.symm); rw [if_neg (by omega), Option.bind_some, if_neg (by decide), Option.bind_some, decide_eq_false (by omega), Bool.false_and, if_neg (by decide)]
  | cons c r =>
    obtain ⟨h1, h2, h3⟩ := bt_list s 0 c r (by rw [List.drop_zero]; exact hs); have h2' : bt s 0 = (c.toNat : Int) := h2
    have e1 : (s.extract 0 (1 : Int).toNat).toList = [c] := by
      rw [Lib.toList_data, ByteArray.data_extract, Array.toList_extract, List.extract_eq_take_drop, hs]; rfl
    (have e2 : ((⟨#[45]⟩ : ByteArray)).toList = [45] := by rw [Lib.toList_data]); rw [if_pos (by omega), if_pos (by omega), if_pos (by omega), Option.bind_some, e1, e2, decide_eq_true h1, Bool.true_and, h2']
    have e3 : (([c] : List UInt8) == [45]) = (((c.toNat : Int)) == 45) := by
      rw [Bool.eq_iff_iff, beq_iff_eq, beq_iff_eq]; constructor
      · intro h
        injection h with h4 h5; rw [h4]; rfl
      · intro h
        have : c = 45 := by
          apply UInt8.toNat_inj.1; (have : c.toNat = 45 := by omega); rw [this]; rfl
        rw [this]
    rw [e3]
    cases (((c.toNat : Int)) == 45) with
    | true =>
      rw [if_pos rfl, if_pos (by omega), if_pos (by omega), Option.bind_some, if_pos rfl]; rfl
    | false => rw [if_neg (by decide), Option.bind_some, if_neg (by decide)]
def negB (s : ByteArray) : Bool := decide (0 < s.size) && (bt s 0 == 45)
def bodyS (s : ByteArray) : ByteArray := if negB s = true then s.extract 1 s.size else s
/-- Parse tells spec -/
theorem parse_ev (s : ByteArray) (hz : s.size ≤ 1000000) : Ev (fun k => ratio_Parse.f k s) (spec (negB s) (bodyS s)) := by
  have hc := cut_eq s; have hn : (decide (0 < s.size) && (bt s 0 == 45)) = negB s := rfl; rw [hn] at hc; unfold bodyS
  cases h : negB s with
  | true =>
    rw [h, if_pos rfl] at hc; refine Ev.congr (fun k => by unfold ratio_Parse.f; rw [hc, Option.bind_some]) ?_; rw [if_pos rfl]; exact body_ev (s.extract 1 s.size) true (by rw [ByteArray.size_extract]; omega)
  | false =>
    rw [h, if_neg (by decide)] at hc; refine Ev.congr (fun k => by unfold ratio_Parse.f; rw [hc, Option.bind_some]) ?_; rw [if_neg (by decide)]; exact body_ev s false hz
end Go.Proofs.YtbapkiclgkddcaaGreatDoor.Mth

/- What the tape of drawn numbers hands out: each reading comes to an end, keeps the tape in its bounds, and its numbers lie where they should. -/
namespace Go.Proofs.YtbapkiclgkddcaaGreatDoor.Mth
open Go.RowKit Go.Proofs.YtbapkiclgkddcaaGreatDoor.G Go.Proofs.YtbapkiclgkddcaaGreatDoor.Given Go.Proofs.YtbapkiclgkddcaaGreatDoorW.PrintWords Go.Proofs.YtbapkiclgkddcaaGreatDoorW.PrintLast Go.Proofs.YtbapkiclgkddcaaGreatDoorW.PrintMore
set_option linter.unusedVariables false

/-- the tape and the place on it are in bounds -/
def TapeOk (t : List Int) (p : Int) : Prop := (t.length ≤ 600 ∧ ∀ x ∈ t, I64 x) ∧ 0 ≤ p ∧ p ≤ 600
theorem new_ok {l : List Int} (h : ∀ x ∈ l, (Lit.int .i64 x).wf = true) : ∃ t, mk_New.f l = some (t, 0) ∧ TapeOk t 0 := by
  unfold mk_New.f
  by_cases h6 : (l.length : Int) > 600
  · rw [if_pos h6, if_pos (by omega)]
    exact ⟨_, rfl, ⟨by rw [List.length_take]; omega, fun x hx => I64.of (h x (List.mem_of_mem_take hx))⟩, by omega⟩
  · rw [if_neg h6]
    exact ⟨_, rfl, ⟨by omega, fun x hx => I64.of (h x hx)⟩, by omega⟩
theorem raw_ok {t : List Int} {p : Int} (h : TapeOk t p) : ∃ x p', tp_Raw.f t p = some (x, p') ∧ TapeOk t p' ∧ I64 x := by
  obtain ⟨⟨h1, h2⟩, h3, h4⟩ := h; (have e : wrap64 ((wrap64 (p + 1)) - 1) = p := by unfold wrap64; omega); (have e2 : wrap64 (p + 1) = p + 1 := by unfold wrap64; omega); unfold tp_Raw.f; rw [e, e2]
  by_cases h5 : p ≥ (t.length : Int)
  · rw [if_pos h5]; exact ⟨_, _, rfl, ⟨⟨h1, h2⟩, h3, h4⟩, by unfold I64; omega⟩
  · rw [if_neg h5, if_pos h3, if_pos (by omega)]
    refine ⟨_, _, rfl, ⟨⟨h1, h2⟩, by omega, by omega⟩, ?_⟩; (have hl : p.toNat < t.length := by omega); (have e3 : rd t p = t[p.toNat] := by simp [rd, List.getElem?_eq_getElem hl]); rw [e3]; exact h2 _ (List.getElem_mem hl)
theorem cut_ok {a n : Int} (ha : I64 a) (hn : 1 ≤ n) (hn2 : I64 n) : ∃ x, mk_Cut.f a n = some x ∧ 0 ≤ x ∧ x < n := by
  unfold mk_Cut.f; rw [if_neg (by omega), if_neg (by omega)]; have h1 := Int.tmod_lt_of_pos a (show 0 < n by omega)
  have h2 : -n < Int.tmod a n := by
    have := Int.tmod_lt_of_pos (-a) (show 0 < n by omega); rw [Int.neg_tmod] at this; omega
  unfold I64 at hn2
  split
  · refine ⟨_, rfl, ?_⟩; unfold wrap64; omega
  · exact ⟨_, rfl, by omega⟩
theorem next_ok {t : List Int} {p n : Int} (h : TapeOk t p) (hn : 1 ≤ n) (hn2 : I64 n) : ∃ x p', tp_Next.f t p n = some (x, p') ∧ TapeOk t p' ∧ 0 ≤ x ∧ x < n := by
  obtain ⟨y, p', e, h', hy⟩ := raw_ok h; obtain ⟨x, e2, hx⟩ := cut_ok hy hn hn2; refine ⟨x, p', ?_, h', hx⟩; unfold tp_Next.f; rw [e, Option.bind_some, e2]; rfl
theorem range_ok {t : List Int} {p lo hi : Int} (h : TapeOk t p) (h1 : lo ≤ hi) (h2 : -1000000 ≤ lo) (h3 : hi ≤ 1000000) : ∃ x p', tp_Range.f t p lo hi = some (x, p') ∧ TapeOk t p' ∧ lo ≤ x ∧ x ≤ hi := by
  (have e : wrap64 ((wrap64 (hi - lo)) + 1) = hi - lo + 1 := by unfold wrap64; omega); obtain ⟨x, p', e2, h', hx⟩ := next_ok h (n := hi - lo + 1) (by omega) (by unfold I64; omega); refine ⟨lo + x, p', ?_, h', by omega⟩; unfold tp_Range.f; rw [e, e2, Option.bind_some, show wrap64 (lo + x) = lo + x from by unfold wrap64; omega]
theorem one_ok {t : List Int} {p n : Int} (h : TapeOk t p) (hn : 1 ≤ n) (hn2 : I64 n) : ∃ b p', tp_One.f t p n = some (b, p') ∧ TapeOk t p' := by
  obtain ⟨x, p', e2, h', hx⟩ := next_ok h hn hn2; refine ⟨(x == (wrap64 (n - 1))), p', ?_, h'⟩; unfold tp_One.f; rw [e2, Option.bind_some]
theorem pick_ok {t : List Int} {p : Int} {l : List Int} (h : TapeOk t p) (hl : 0 < l.length) (hl2 : l.length ≤ 1000000) : ∃ x p', tp_Pick.f t p l = some (x, p') ∧ TapeOk t p' ∧ x ∈ l := by
  obtain ⟨x, p', e2, h', hx0, hx1⟩ := next_ok h (n := (l.length : Int)) (by omega) (by unfold I64; omega); refine ⟨rd l x, p', ?_, h', ?_⟩
  · unfold tp_Pick.f
    rw [e2, Option.bind_some, if_pos hx0, if_pos hx1]
  · have hl : x.toNat < l.length := by omega
    (have e3 : rd l x = l[x.toNat] := by simp [rd, List.getElem?_eq_getElem hl]); rw [e3]; exact List.getElem_mem hl
theorem spoil_ok {t : List Int} {p a n : Int} (h : TapeOk t p) (hn : 1 ≤ n) (hn2 : I64 n) : ∃ x p', tp_Spoil.f t p a n = some (x, p') ∧ TapeOk t p' := by
  obtain ⟨b, p1, e1, h1⟩ := one_ok h hn hn2; unfold tp_Spoil.f; rw [if_pos (by omega), e1, Option.bind_some]
  cases b with
  | false => rw [if_neg (by simp)]; exact ⟨_, _, rfl, h1⟩
  | true =>
    rw [if_pos rfl]; obtain ⟨x, p2, e2, h2, _⟩ := pick_ok (l := ([(-1), 0, 1, 2, 31, 32, 99, 100, 200, 201, 9999, 10000, 1000000, 1000001, 1152921504606846976, 1152921504606846977, (-1152921504606846976), 9223372036854775807, (-9223372036854775808)] : List Int)) h1 (by decide) (by decide); unfold tp_Wild.f; rw [e2, Option.bind_some, Option.bind_some]; exact ⟨_, _, rfl, h2⟩

/-- a reduced fraction is valid -/
theorem red_ok {s : Bool} {n d : Nat} {a b : Int} (hd : 0 < d) (h : red s n d = (a, b, 0)) : okR a b ∧ a.natAbs = n / Nat.gcd n d ∧ b.natAbs = d / Nat.gcd n d := by
  unfold red at h; have hg : 0 < Nat.gcd n d := Nat.gcd_pos_of_pos_right _ hd; have hc := Nat.coprime_div_gcd_div_gcd hg; have h1 : 0 < d / Nat.gcd n d := Nat.div_pos (Nat.gcd_le_right _ hd) hg; obtain ⟨X, hX⟩ : ∃ X, n / Nat.gcd n d = X := ⟨_, rfl⟩; obtain ⟨Y, hY⟩ : ∃ Y, d / Nat.gcd n d = Y := ⟨_, rfl⟩; rw [hX, hY] at h hc ⊢; rw [hY] at h1
  split at h
  · rename_i hb
    simp only [Prod.mk.injEq] at h; obtain ⟨h2, h3, _⟩ := h; (have ea : a.natAbs = X := by rw [← h2]; split <;> omega); (have eb : b.natAbs = Y := by rw [← h3]; omega); refine ⟨⟨?_, ?_⟩, ea, eb⟩
    · refine ⟨by omega, by omega, ?_, ?_⟩ <;> omega
    · rw [ea, eb]; exact hc
  · simp at h
theorem red_fits (s : Bool) (n d : Nat) (hn : n ≤ 1152921504606846976) (hd : d ≤ 1152921504606846976) : ∃ a b, red s n d = (a, b, 0) := by
  unfold red; rw [if_pos ⟨Nat.le_trans (Nat.div_le_self _ _) hn, Nat.le_trans (Nat.div_le_self _ _) hd⟩]; exact ⟨_, _, rfl⟩
theorem newR_ok {x y a b : Int} (h : newR x y = (a, b, 0)) : okR a b ∧ a.natAbs ≤ x.natAbs ∧ b.natAbs ≤ y.natAbs := by
  unfold newR at h
  split at h
  · simp at h
  · obtain ⟨h1, h2, h3⟩ := red_ok (by omega) h
    exact ⟨h1, by rw [h2]; exact Nat.div_le_self _ _, by rw [h3]; exact Nat.div_le_self _ _⟩

theorem all_i64 {l : List Int} (h : l.all (fun x => decide (-9223372036854775808 ≤ x) && decide (x ≤ 9223372036854775807)) = true) {x : Int} (hx : x ∈ l) : I64 x := by
  have := List.all_eq_true.1 h x hx
  simpa [I64] using this
theorem okR_one : okR 1 1 := by decide
theorem ratio_j_ok {t : List Int} {p x y : Int} (h : TapeOk t p) (hx : I64 x) (hy : I64 y) : ∃ a b p', Ev (fun k => tp_Ratio.j0 k x y t p) (a, b, p') ∧ TapeOk t p' ∧ okR a b := by
  have key (y2 : Int) (hy2 : I64 y2) (p2 : Int) (h2 : TapeOk t p2) : ∃ a b p', Ev (fun k => (r1_New.f k x y2).bind fun bt => (if bt.2.2 = 0 then (some (bt.1, bt.2.1, p2)) else (some (1, 1, p2)))) (a, b, p') ∧ TapeOk t p' ∧ okR a b := by
    have e := fnew_ev hx hy2; obtain ⟨u, v, w, hn⟩ : ∃ u v w, newR x y2 = (u, v, w) := ⟨_, _, _, rfl⟩; rw [hn] at e
    by_cases hw : w = 0
    · subst hw
      exact ⟨u, v, p2, Ev.bind (f := fun _ (bt : Int × Int × Int) => (if bt.2.2 = 0 then (some (bt.1, bt.2.1, p2)) else (some (1, 1, p2)))) e (Ev.congr (fun k => by rw [if_pos rfl]) (Ev.now _)), h2, (newR_ok hn).1⟩
    · exact ⟨1, 1, p2, Ev.bind (f := fun _ (bt : Int × Int × Int) => (if bt.2.2 = 0 then (some (bt.1, bt.2.1, p2)) else (some (1, 1, p2)))) e (Ev.congr (fun k => by rw [if_neg hw]) (Ev.now _)), h2, okR_one⟩
  obtain ⟨b, p1, e1, h1⟩ := one_ok (n := 4) h (by omega) (by unfold I64; omega)
  cases b with
  | false =>
    obtain ⟨a, b, p', e, r⟩ := key y hy p1 h1; refine ⟨a, b, p', Ev.step (fun k => ?_) e, r⟩; simp only [tp_Ratio.j0]; rw [e1, Option.bind_some, if_neg (by simp)]
  | true =>
    obtain ⟨z, p2, e2, h2, hz⟩ := pick_ok (l := ([1152921504606846976, 1152921504606846975, 576460752303423488, 1073741824, 1000000000, 1000000007, 432345564227567616, 1152921504606846869] : List Int)) h1 (by decide) (by decide); obtain ⟨a, b, p', e, r⟩ := key z (all_i64 (by decide) hz) p2 h2; refine ⟨a, b, p', Ev.step (fun k => ?_) e, r⟩; simp only [tp_Ratio.j0]; rw [e1, Option.bind_some, if_pos rfl, e2, Option.bind_some]
theorem ratio_ok {t : List Int} {p : Int} (h : TapeOk t p) : ∃ a b p', Ev (fun k => tp_Ratio.f k t p) (a, b, p') ∧ TapeOk t p' ∧ okR a b := by
  obtain ⟨x, p1, e1, h1, x0, x1⟩ := range_ok (lo := -9) (hi := 9) h (by omega) (by omega) (by omega); obtain ⟨y, p2, e2, h2, y0, y1⟩ := range_ok (lo := 1) (hi := 9) h1 (by omega) (by omega) (by omega); obtain ⟨b, p3, e3, h3⟩ := one_ok (n := 4) h2 (by omega) (by unfold I64; omega); have hy : I64 y := by unfold I64; omega
  cases b with
  | false =>
    obtain ⟨a, b, p', e, r⟩ := ratio_j_ok (x := x) (y := y) h3 (by unfold I64; omega) hy; refine ⟨a, b, p', Ev.congr (fun k => ?_) e, r⟩; unfold tp_Ratio.f; rw [e1, Option.bind_some, e2, Option.bind_some, e3, Option.bind_some, if_neg (by simp)]
  | true =>
    obtain ⟨z, p4, e4, h4, hz⟩ := pick_ok (l := ([1152921504606846976, 1152921504606846975, (-1152921504606846976), 576460752303423488, 1073741824, 3486784401, (-1000000007), 1152921504606846883] : List Int)) h3 (by decide) (by decide); obtain ⟨a, b, p', e, r⟩ := ratio_j_ok (x := z) (y := y) h4 (all_i64 (by decide) hz) hy; refine ⟨a, b, p', Ev.congr (fun k => ?_) e, r⟩; unfold tp_Ratio.f; rw [e1, Option.bind_some, e2, Option.bind_some, e3, Option.bind_some, if_pos rfl, e4, Option.bind_some]
theorem loose_ok {t : List Int} {p : Int} (h : TapeOk t p) : ∃ a b p', Ev (fun k => tp_Loose.f k t p) (a, b, p') ∧ TapeOk t p' := by
  obtain ⟨a, b, p1, e1, h1, _⟩ := ratio_ok h; obtain ⟨c, p2, e2, h2⟩ := one_ok (n := 3) h1 (by omega) (by unfold I64; omega)
  cases c with
  | false =>
    refine ⟨a, b, p2, Ev.congr (fun k => by unfold tp_Loose.f; rfl) (Ev.bind e1 (Ev.congr (fun k => ?_) (Ev.now _))), h2⟩; rw [e2, Option.bind_some, if_neg (by simp)]
  | true =>
    obtain ⟨x, p3, e3, h3, x0, x1⟩ := range_ok (lo := -8) (hi := 8) h2 (by omega) (by omega) (by omega); obtain ⟨u, p4, e4, h4⟩ := spoil_ok (a := x) (n := 3) h3 (by omega) (by unfold I64; omega); obtain ⟨y, p5, e5, h5, y0, y1⟩ := range_ok (lo := -1) (hi := 8) h4 (by omega) (by omega) (by omega); obtain ⟨v, p6, e6, h6⟩ := spoil_ok (a := y) (n := 3) h5 (by omega) (by unfold I64; omega); refine ⟨u, v, p6, Ev.congr (fun k => by unfold tp_Loose.f; rfl) (Ev.bind e1 (Ev.congr (fun k => ?_) (Ev.now _))), h6⟩; rw [e2, Option.bind_some, if_pos rfl, e3, Option.bind_some, e4, Option.bind_some, e5, Option.bind_some, e6, Option.bind_some]
end Go.Proofs.YtbapkiclgkddcaaGreatDoor.Mth

/- Format of both sides: the numeral of the numerator, and, unless the denominator is 1, a slash and the denominator's numeral; what Parse tells of that text. -/
namespace Go.Proofs.YtbapkiclgkddcaaGreatDoor.Mth
open Go.RowKit Go.Proofs.YtbapkiclgkddcaaGreatDoor.G Go.Proofs.YtbapkiclgkddcaaGreatDoor.Given Go.Proofs.YtbapkiclgkddcaaGreatDoorW.PrintWords Go.Proofs.YtbapkiclgkddcaaGreatDoorW.PrintLast Go.Proofs.YtbapkiclgkddcaaGreatDoorW.PrintMore
set_option linter.unusedVariables false
def bs (l : List UInt8) : ByteArray := ⟨l.toArray⟩
theorem bs_size (l : List UInt8) : (bs l).size = l.length := by show l.toArray.size = _; simp
theorem bs_app (a b : List UInt8) : bs a ++ bs b = bs (a ++ b) := by
  apply ByteArray.ext; rw [ByteArray.data_append]; unfold bs; simp
theorem bs_list (l : List UInt8) : (bs l).data.toList = l := by unfold bs; simp
theorem bs_toList (l : List UInt8) : (bs l).toList = l := by rw [Lib.toList_data]; exact bs_list l
theorem nDig_le : ∀ (m u : Nat), 1 ≤ m → u < 10 ^ m → Lib.nDigits u ≤ m := by
  intro m
  induction m with
  | zero => intro u h; omega
  | succ m ih =>
    intro u _ hu
    by_cases h : u < 10
    · rw [Lib.nDigits_small h]; omega
    · rw [Lib.nDigits_big h]
      have hm : 1 ≤ m := by
        apply Decidable.byContradiction; intro c; (obtain rfl : m = 0 := by omega); exact h (by simpa using hu)
      have := ih (u / 10) hm (by rw [Nat.pow_succ] at hu; omega); omega
theorem dig_byte (d : Nat) (h : d < 10) : isD (UInt8.ofNat (48 + d)) = true ∧ (UInt8.ofNat (48 + d)).toNat = 48 + d := by
  (have e : (UInt8.ofNat (48 + d)).toNat = 48 + d := by rw [UInt8.toNat_ofNat']; omega); refine ⟨?_, e⟩; unfold isD; rw [e, decide_eq_true (by omega), decide_eq_true (by omega)]; rfl
theorem dval_app (a : Nat) (l r : List UInt8) : dval a (l ++ r) = dval (dval a l) r := by
  induction l generalizing a with
  | nil => rfl
  | cons c l ih => exact ih _
theorem dec_ge {u : Nat} (h : ¬ u < 10) : Lib.decDigits u = Lib.decDigits (u / 10) ++ [UInt8.ofNat (48 + u % 10)] := by
  rw [Lib.decDigits, dif_neg h]
theorem dval_one (a : Nat) (c : UInt8) : dval a [c] = a * 10 + (c.toNat - 48) := rfl
theorem allD_app (l r : List UInt8) : allD (l ++ r) = (allD l && allD r) := by unfold allD; exact List.all_append
theorem allD_one (c : UInt8) (h : isD c = true) : allD [c] = true := by unfold allD; rw [List.all_cons, h]; rfl
theorem dec_d (u : Nat) : allD (Lib.decDigits u) = true := by
  induction u using Nat.strongRecOn with
  | _ u ih =>
    by_cases h : u < 10
    · rw [Lib.decDigits_one h]
      exact allD_one _ (dig_byte u h).1
    · rw [dec_ge h, allD_app, ih (u / 10) (by omega), allD_one _ (dig_byte (u % 10) (by omega)).1]; rfl
theorem dec_v (u : Nat) : dval 0 (Lib.decDigits u) = u := by
  induction u using Nat.strongRecOn with
  | _ u ih =>
    by_cases h : u < 10
    · rw [Lib.decDigits_one h, dval_one, (dig_byte u h).2]; omega
    · rw [dec_ge h, dval_app, ih (u / 10) (by omega), dval_one, (dig_byte (u % 10) (by omega)).2]; omega
theorem dec_all (u : Nat) : allD (Lib.decDigits u) = true ∧ dval 0 (Lib.decDigits u) = u := ⟨dec_d u, dec_v u⟩
theorem dec_len (u : Nat) (h : u < 10 ^ 19) : 1 ≤ (Lib.decDigits u).length ∧ (Lib.decDigits u).length ≤ 19 := by
  rw [Lib.decDigits_length]; exact ⟨Lib.nDigits_pos u, nDig_le 19 u (by decide) h⟩
/-- the reference's digits -/
theorem digits_l (u : Nat) (x : List UInt8) (hu : u < 10 ^ 19) (hx : x.length + Lib.nDigits u ≤ 1000) : Ev (fun k => r1_Digits.l0 k (bs x) 0 u) (bs (Lib.decDigits u ++ x)) := by
  induction u using Nat.strongRecOn generalizing x with
  | _ u ih =>
    have hd := divide_ev u 10 (by omega) (by decide) (by decide); rw [hi_small (show u < 18446744073709551616 by omega), lo_small (show u < 18446744073709551616 by omega), hi_small (show 10 < 18446744073709551616 by omega), lo_small (show 10 < 18446744073709551616 by omega), hi_small (show u / 10 < 18446744073709551616 by omega), lo_small (show u / 10 < 18446744073709551616 by omega), hi_small (show u % 10 < 18446744073709551616 by omega), lo_small (show u % 10 < 18446744073709551616 by omega), show ((10 : Nat) : Int) = 10 from rfl] at hd
    have ec : strOfNums [(IntKind.u64.wrap (48 + ((u % 10 : Nat) : Int))) % 256] = bs [UInt8.ofNat (48 + u % 10)] := by
      unfold strOfNums bs; rw [List.map_cons, List.map_nil, show ((IntKind.u64.wrap (48 + ((u % 10 : Nat) : Int))) % 256).toNat = 48 + u % 10 by rw [wu]; omega]
    (have es : (bs [UInt8.ofNat (48 + u % 10)]).size + (bs x).size ≤ 9223372036854775807 := by rw [bs_size, bs_size, List.length_singleton]; omega); have e1 : bs [UInt8.ofNat (48 + u % 10)] ++ bs x = bs (UInt8.ofNat (48 + u % 10) :: x) := by rw [bs_app]; rfl
    by_cases h : u < 10
    · refine Ev.step (fun k => by simp only [r1_Digits.l0]; rfl) (Ev.bind hd (Ev.congr (f := fun _ => some (bs (Lib.decDigits u ++ x))) (fun k => ?_) (Ev.now _)))
      dsimp only; rw [Option.bind_some, ec, if_pos es, if_pos (by rw [Bool.and_eq_true, beq_iff_eq, beq_iff_eq]; omega), e1]; rw [Lib.decDigits_one h, show u % 10 = u by omega]; rfl
    · have hn := Lib.nDigits_big h
      have i := ih (u / 10) (by omega) (UInt8.ofNat (48 + u % 10) :: x) (by omega) (by rw [List.length_cons]; omega)
      have e2 : Lib.decDigits u ++ x = Lib.decDigits (u / 10) ++ (UInt8.ofNat (48 + u % 10) :: x) := by
        rw [dec_ge h, List.append_assoc]; rfl
      rw [e2]; refine Ev.step (fun k => by simp only [r1_Digits.l0]; rfl) (Ev.bind hd (Ev.congr (fun k => ?_) i)); dsimp only; rw [Option.bind_some, ec, if_pos es, if_neg (by rw [Bool.and_eq_true, beq_iff_eq, beq_iff_eq]; omega), e1]
theorem digits_ev (u : Nat) (hu : u < 10 ^ 19) : Ev (fun k => r1_Digits.f k 0 u) (bs (Lib.decDigits u)) := by
  have := digits_l u [] hu (by have := nDig_le 19 u (by decide) hu; rw [List.length_nil]; omega); rw [List.append_nil] at this; exact this
/-- the text of a fraction -/
def fmtL (n d : Int) : List UInt8 := if d = 1 then Lib.itoa n else Lib.itoa n ++ 47 :: Lib.itoa d
theorem itoa_nn {n : Int} (h : 0 ≤ n) : Lib.itoa n = Lib.decDigits n.natAbs := by
  unfold Lib.itoa; rw [if_neg (by omega), show n.toNat = n.natAbs by omega]
theorem itoa_sg (n : Int) : Lib.itoa n = (if n < 0 then [45] else []) ++ Lib.decDigits n.natAbs := by
  by_cases h : n < 0
  · unfold Lib.itoa; rw [if_pos h, if_pos h]; rfl
  · rw [itoa_nn (by omega), if_neg h]; rfl
theorem rformat_ev (n d : Int) : Ev (fun k => ratio_Format.f k n d) (if okR n d then bs (fmtL n d) else bs []) := by
  refine Ev.congr (fun k => by unfold ratio_Format.f; rfl) (Ev.bind (rvalid_ev n d) ?_)
  by_cases h : okR n d
  · obtain ⟨⟨h1, h2, h3, h4⟩, _⟩ := id h
    (have i1 : strconv_Itoa_22.f n = some (bs (Lib.itoa n)) := by unfold strconv_Itoa_22.f; rw [if_pos ⟨by omega, by omega⟩]; rfl); (have i2 : strconv_Itoa_22.f d = some (bs (Lib.itoa d)) := by unfold strconv_Itoa_22.f; rw [if_pos ⟨by omega, by omega⟩]; rfl); have l1 := Lib.itoa_length_le n (by omega) (by omega); have l2 := Lib.itoa_length_le d (by omega) (by omega); rw [if_pos h]; refine Ev.congr (f := fun _ => some (bs (fmtL n d))) (fun k => ?_) (Ev.now _); rw [if_pos (decide_eq_true h), i1, i2, Option.bind_some]; unfold fmtL
    by_cases c : d = 1
    · rw [if_pos c, if_pos c]
    · have e : (⟨#[47]⟩ : ByteArray) = bs [47] := rfl
      rw [if_neg c, if_neg c, Option.bind_some, if_pos (by rw [bs_size]; omega), Option.bind_some, e, bs_app, if_pos (by rw [bs_size, bs_size, List.length_append, List.length_singleton]; omega), bs_app, List.append_assoc]; rfl
  · rw [if_neg h]
    refine Ev.congr (f := fun _ => some (bs [])) (fun k => ?_) (Ev.now _); rw [if_neg (by rw [decide_eq_true_eq]; exact h)]; rfl
theorem fformat_ev (n d : Int) : Ev (fun k => r1_Format.f k n d) (if okR n d then bs (fmtL n d) else bs []) := by
  refine Ev.congr (fun k => by unfold r1_Format.f; rfl) (Ev.bind (fvalid_ev n d) ?_)
  by_cases h : okR n d
  · obtain ⟨⟨h1, h2, h3, h4⟩, _⟩ := id h
    rw [if_pos h]; (have i1 : I64 n := by unfold I64; omega); (have i2 : I64 d := by unfold I64; omega); have l1 := dec_len n.natAbs (by omega); have l2 := dec_len d.natAbs (by omega)
    have hj : ∀ x : List UInt8, x.length ≤ 100 → Ev (fun k => r1_Format.j0 k (bs x) n d) (if d = 1 then bs x else bs (x ++ 47 :: Lib.itoa d)) := by
      intro x hx
      by_cases c : d = 1
      · rw [if_pos c]
        exact Ev.step (f := fun _ => some (bs x)) (fun k => by simp only [r1_Format.j0]; rw [if_pos c]) (Ev.now _)
      · rw [if_neg c]
        refine Ev.step (fun k => by simp only [r1_Format.j0]; rw [if_neg c, if_pos (by rw [bs_size]; omega), size_eq i2, Option.bind_some]) (Ev.bind (digits_ev d.natAbs (by omega)) (Ev.congr (f := fun _ => some (bs (x ++ 47 :: Lib.itoa d))) (fun k => ?_) (Ev.now _))); have e : (⟨#[47]⟩ : ByteArray) = bs [47] := rfl; rw [e, bs_app, if_pos (by rw [bs_size, bs_size, List.length_append, List.length_singleton]; omega), bs_app, List.append_assoc, itoa_nn (by omega)]; rfl
    refine Ev.congr (fun k => by rw [if_pos (decide_eq_true h), size_eq i1, Option.bind_some]) (Ev.bind (digits_ev n.natAbs (by omega)) ?_)
    have e2 : bs (fmtL n d) = if d = 1 then bs (Lib.itoa n) else bs (Lib.itoa n ++ 47 :: Lib.itoa d) := by
      unfold fmtL; split <;> rfl
    rw [e2, itoa_sg n]
    by_cases c : n < 0
    · rw [if_pos c]
      refine Ev.congr (fun k => by rw [if_pos c, if_pos (by rw [bs_size]; omega), show (⟨#[45]⟩ : ByteArray) = bs [45] from rfl, bs_app]) (hj _ (by rw [List.length_append, List.length_singleton]; omega))
    · rw [if_neg c]
      rw [List.nil_append]; exact Ev.congr (fun k => by rw [if_neg c]) (hj _ (by omega))
  · rw [if_neg h]
    refine Ev.congr (f := fun _ => some (bs [])) (fun k => ?_) (Ev.now _); rw [if_neg (by rw [decide_eq_true_eq]; exact h)]; rfl
end Go.Proofs.YtbapkiclgkddcaaGreatDoor.Mth

/- What Parse tells of the text that Format writes. -/
namespace Go.Proofs.YtbapkiclgkddcaaGreatDoor.Mth
open Go.RowKit Go.Proofs.YtbapkiclgkddcaaGreatDoor.G Go.Proofs.YtbapkiclgkddcaaGreatDoor.Given Go.Proofs.YtbapkiclgkddcaaGreatDoorW.PrintWords Go.Proofs.YtbapkiclgkddcaaGreatDoorW.PrintLast Go.Proofs.YtbapkiclgkddcaaGreatDoorW.PrintMore
set_option linter.unusedVariables false
theorem idx_none (c : Nat) (hc : c < 48) : ∀ l, allD l = true → idx c l = -1 := by
  intro l
  induction l with
  | nil => intro _; rfl
  | cons b l ih =>
    intro h; (have hall : allD (b :: l) = (isD b && allD l) := by unfold allD; rw [List.all_cons]); rw [hall, Bool.and_eq_true] at h; have := isD_bd h.1; simp only [idx]; rw [if_neg (by omega), if_pos (ih h.2)]
theorem idx_at (c : Nat) (b : UInt8) (hb : b.toNat = c) (hc : c < 48) : ∀ l r, allD l = true → idx c (l ++ b :: r) = l.length := by
  intro l r
  induction l with
  | nil => intro _; simp only [List.nil_append, idx]; rw [if_pos hb]; rfl
  | cons x l ih =>
    intro h; (have hall : allD (x :: l) = (isD x && allD l) := by unfold allD; rw [List.all_cons]); rw [hall, Bool.and_eq_true] at h; have := isD_bd h.1; rw [List.cons_append]; simp only [idx]; rw [if_neg (by omega), ih h.2, if_neg (by omega), List.length_cons]; rfl
theorem bs_extract (l : List UInt8) (a e : Nat) : (bs l).extract a e = bs ((l.drop a).take (e - a)) := by
  apply ByteArray.ext; unfold bs; rw [ByteArray.data_extract]; apply Array.toList_inj.1; rw [Array.toList_extract, List.extract_eq_take_drop]
theorem okd_dec (u : Nat) (h : u < 10 ^ 19) : okd (bs (Lib.decDigits u)) 19 = true ∧ va (bs (Lib.decDigits u)) = u := by
  have h1 := dec_len u h; have h2 := dec_all u; refine ⟨?_, ?_⟩
  · unfold okd
    rw [bs_size, bs_list, h2.1, decide_eq_true h1]; rfl
  · unfold va
    rw [bs_list]; exact h2.2
theorem red_low (neg : Bool) (n d : Nat) (h : Nat.gcd n d = 1) (h1 : n ≤ 1152921504606846976) (h2 : d ≤ 1152921504606846976) : red neg n d = ((if neg then -(n : Int) else (n : Int)), (d : Int), 0) := by
  unfold red; rw [h, Nat.div_one, Nat.div_one, if_pos ⟨h1, h2⟩]
def tailL (d : Int) : List UInt8 := if d = 1 then [] else 47 :: Lib.decDigits d.natAbs
theorem fmt_eq (n d : Int) (hd : 1 ≤ d) : fmtL n d = (if n < 0 then [45] else []) ++ (Lib.decDigits n.natAbs ++ tailL d) := by
  unfold fmtL tailL; rw [itoa_sg n, itoa_nn (show 0 ≤ d by omega)]
  split <;> simp [List.append_assoc]
theorem spec_ok (neg : Bool) (n d : Nat) (h : Nat.gcd n d = 1) (h1 : n ≤ 1152921504606846976) (h2 : d ≤ 1152921504606846976) (hd : 1 ≤ d) :
    spec neg (bs (Lib.decDigits n ++ tailL d)) = ((if neg then -(n : Int) else (n : Int)), (d : Int), 0) := by
  obtain ⟨a1, a2⟩ := okd_dec n (by omega); obtain ⟨b1, b2⟩ := okd_dec d (by omega); unfold spec tailL
  by_cases c : (d : Int) = 1
  · rw [if_pos c, List.append_nil, bs_list, idx_none 47 (by decide) _ (dec_all n).1, idx_none 46 (by decide) _ (dec_all n).1, if_neg (by decide), if_pos (by decide)]
    unfold R0; (have e : d = 1 := by omega); rw [if_pos a1, a2, ← red_low neg n d h h1 h2, e]
  · rw [if_neg c, bs_list, idx_at 47 47 rfl (by decide) _ _ (dec_all n).1, if_pos (by omega), Int.toNat_natCast, bs_extract, bs_extract, bs_size, Int.natAbs_natCast]
    have e1 : ((Lib.decDigits n ++ 47 :: Lib.decDigits d).drop 0).take ((Lib.decDigits n).length - 0) = Lib.decDigits n := by
      rw [List.drop_zero, Nat.sub_zero, List.take_left']; rfl
    have e2 : ((Lib.decDigits n ++ 47 :: Lib.decDigits d).drop ((Lib.decDigits n).length + 1)).take ((Lib.decDigits n ++ 47 :: Lib.decDigits d).length - ((Lib.decDigits n).length + 1)) = Lib.decDigits d := by
      rw [List.drop_append, List.drop_eq_nil_of_le (by omega), List.nil_append, show (Lib.decDigits n).length + 1 - (Lib.decDigits n).length = 1 by omega, List.drop_one, List.tail_cons, List.length_append, List.length_cons, List.take_of_length_le (by omega)]
    rw [e1, e2]; unfold R47; rw [if_pos a1, if_pos b1, b2, if_neg (by omega), a2, red_low neg n d h h1 h2]
theorem bt_cons (c : UInt8) (l : List UInt8) : bt (bs (c :: l)) 0 = (c.toNat : Int) := by
  exact (bt_list (bs (c :: l)) 0 c l (by rw [bs_list, List.drop_zero])).2.1
theorem back_ev (n d : Int) (h : okR n d) : Ev (fun k => ratio_Parse.f k (bs (fmtL n d))) (n, d, 0) := by
  obtain ⟨⟨h1, h2, h3, h4⟩, hg⟩ := h; have l1 := dec_len n.natAbs (by omega); have l2 := dec_len d.natAbs (by omega)
  have lt : (tailL d).length ≤ 20 := by unfold tailL; split; · exact Nat.zero_le _
                                        · rw [List.length_cons]; omega
  have sz : (bs (fmtL n d)).size ≤ 1000000 := by
    rw [bs_size, fmt_eq n d h1, List.length_append, List.length_append]
    split <;> simp only [List.length_singleton, List.length_nil] <;> omega
  have hp := parse_ev (bs (fmtL n d)) sz; (have hd : d = ((d.natAbs : Nat) : Int) := by omega); have ht : tailL d = tailL ((d.natAbs : Nat) : Int) := by rw [← hd]
  have hs : spec (negB (bs (fmtL n d))) (bodyS (bs (fmtL n d))) = (n, d, 0) := by
    rw [fmt_eq n d h1]
    by_cases c : n < 0
    · rw [if_pos c, List.singleton_append]
      have e1 : negB (bs (45 :: (Lib.decDigits n.natAbs ++ tailL d))) = true := by
        unfold negB; rw [bt_cons, bs_size, List.length_cons, decide_eq_true (by omega)]; rfl
      unfold bodyS; rw [e1, if_pos rfl, bs_extract, bs_size, List.length_cons, List.drop_one, List.tail_cons, List.take_of_length_le (by omega), ht, spec_ok true _ _ hg (by omega) (by omega) (by omega), if_pos rfl]; rw [← hd]; refine congrArg (fun x => (x, d, (0 : Int))) ?_; omega
    · rw [if_neg c, List.nil_append]
      have e1 : negB (bs (Lib.decDigits n.natAbs ++ tailL d)) = false := by
        unfold negB
        cases hl : Lib.decDigits n.natAbs with
        | nil => rw [hl] at l1; simp at l1
        | cons x r =>
          have ha := (dec_all n.natAbs).1; rw [hl] at ha; (have hall : allD (x :: r) = (isD x && allD r) := by unfold allD; rw [List.all_cons]); rw [hall, Bool.and_eq_true] at ha; have := isD_bd ha.1; rw [List.cons_append, bt_cons, show (((x.toNat : Int)) == 45) = false from beq_eq_false_iff_ne.2 (by omega), Bool.and_false]
      unfold bodyS; rw [e1, if_neg (by decide), ht, spec_ok false _ _ hg (by omega) (by omega) (by omega), if_neg (by decide)]; rw [← hd]; refine congrArg (fun x => (x, d, (0 : Int))) ?_; omega
  rw [hs] at hp; exact hp
theorem empty_ev : Ev (fun k => ratio_Parse.f k (bs [])) (0, 0, 7) := parse_ev (bs []) (by decide)
end Go.Proofs.YtbapkiclgkddcaaGreatDoor.Mth

/- The examples of the chapter: what every law asks beside its own matter. -/
namespace Go.Proofs.YtbapkiclgkddcaaGreatDoor.Mth
open Go.RowKit Go.Proofs.YtbapkiclgkddcaaGreatDoor.G Go.Proofs.YtbapkiclgkddcaaGreatDoor.Given Go.Proofs.YtbapkiclgkddcaaGreatDoorW.PrintWords Go.Proofs.YtbapkiclgkddcaaGreatDoorW.PrintLast Go.Proofs.YtbapkiclgkddcaaGreatDoorW.PrintMore
theorem app_ex : ratio_Apportion.f 3 [5, 3, 0] = some ([2, 1, 0], 0) := by decide +kernel
theorem awake_ev : Ev (fun k => awardingbodylaw01_awake.f k) true := by
  have h := rnew_ev (a := 6) (b := -4) (by unfold I64; omega) (by unfold I64; omega); rw [show newR 6 (-4) = (-3, 2, 0) from by decide +kernel] at h; refine Ev.congr (fun k => by unfold awardingbodylaw01_awake.f; rfl) ?_; refine Ev.bind h ?_; refine ev_some (fun k => ?_); rw [app_ex]
  decide
/-- a law's last step: the chapter's examples -/
theorem awake_end : Ev (fun k => (awardingbodylaw01_awake.f k).bind fun t => some t) true := Ev.bind (f := fun _ t => some t) awake_ev (Ev.now _)
end Go.Proofs.YtbapkiclgkddcaaGreatDoor.Mth

/- The law over the tape. -/
namespace Go.Proofs.YtbapkiclgkddcaaGreatDoor.Pure
open Go.RowKit Go.Proofs.YtbapkiclgkddcaaGreatDoor.G Go.Proofs.YtbapkiclgkddcaaGreatDoor.Given Go.Proofs.YtbapkiclgkddcaaGreatDoor.Mth Go.Proofs.YtbapkiclgkddcaaGreatDoorW.PrintWords Go.Proofs.YtbapkiclgkddcaaGreatDoorW.PrintLast Go.Proofs.YtbapkiclgkddcaaGreatDoorW.PrintMore
set_option linter.unusedVariables false
theorem RatioBack : awardingbodylaw01_RatioBack.Pure := by
  intro l0 _ _ hw; obtain ⟨t, e1, ht⟩ := new_ok hw; obtain ⟨a, b, p, e2, _⟩ := loose_ok ht
  have goal : Ev (fun k => awardingbodylaw01_RatioBack.f k l0) true := by
    refine Ev.congr (fun k => by unfold awardingbodylaw01_RatioBack.f; rw [e1, Option.bind_some]) (Ev.bind e2 ?_); refine Ev.bind (rformat_ev a b) ?_; refine Ev.bind (fformat_ev a b) ?_; refine Ev.congr (fun k => by rw [if_pos rfl]) ?_
    by_cases h : okR a b
    · rw [if_pos h]
      refine Ev.bind (back_ev a b h) ?_; refine Ev.bind (fvalid_ev a b) ?_; refine Ev.congr (fun k => ?_) awake_end; rw [if_pos (decide_eq_true h), if_pos rfl, if_pos (by rw [beq_self_eq_true, beq_self_eq_true]; rfl)]
    · rw [if_neg h]
      refine Ev.bind empty_ev ?_; refine Ev.bind (fvalid_ev a b) ?_; refine Ev.congr (fun k => ?_) awake_end; rw [if_neg (by rw [decide_eq_true_eq]; exact h), if_pos rfl]
  obtain ⟨K, hK⟩ := goal; exact ⟨K, hK K (Nat.le_refl _)⟩
end Go.Proofs.YtbapkiclgkddcaaGreatDoor.Pure
