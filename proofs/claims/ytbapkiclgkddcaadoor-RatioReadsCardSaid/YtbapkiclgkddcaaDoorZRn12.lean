/- Texts of this claim laid together: MathT, MathW, PureRatioReads. -/
import Derived.Test.YtbapkiclgkddcaaDoorZRn8
import Derived.Test.YtbapkiclgkddcaaDoorZRn11
import Derived.Test.YtbapkiclgkddcaaDoorZRn2
import Derived.Test.YtbapkiclgkddcaaDoorZRn3
import Derived.Test.YtbapkiclgkddcaaDoorZRn7
/- What the tape of drawn numbers hands out: each reading comes to an end, keeps the tape in its bounds, and its numbers lie where they should. -/
namespace Go.Proofs.YtbapkiclgkddcaaDoor.Mth
open Go.RowKit Go.Proofs.YtbapkiclgkddcaaDoor.G Go.Proofs.YtbapkiclgkddcaaDoor.Given Go.Proofs.YtbapkiclgkddcaaDoorW.PrintWords Go.Proofs.YtbapkiclgkddcaaDoorW.PrintLast Go.Proofs.YtbapkiclgkddcaaDoorW.PrintMore
set_option linter.unusedVariables false

/-- the tape and the place on it are in bounds -/
def TapeOk (t : List Int) (p : Int) : Prop := (t.length ≤ 600 ∧ ∀ x ∈ t, I64 x) ∧ 0 ≤ p ∧ p ≤ 600
theorem new_ok {l : List Int} (h : ∀ x ∈ l, (Lit.int .i64 x).wf = true) : ∃ t, mk_New.f l = some (t, 0) ∧ TapeOk t 0 := by
  unfold mk_New.f
  by_cases h6 : (l.length : Int) > 600
  · rw [if_pos h6, if_pos (by omega)]
    exact ⟨_, rfl, ⟨by rw [List.length_take]; omega, fun x hx => I64.of (h x (List.mem_of_mem_take hx))⟩, by omega⟩
  · rw [if_neg h6]
    exact ⟨_, rfl, ⟨by omega, fun x hx => I64.of (h x hx)⟩, by omega⟩
theorem raw_ok {t : List Int} {p : Int} (h : TapeOk t p) : ∃ x p', tp_Raw.f t p = some (x, p') ∧ TapeOk t p' ∧ I64 x := by
  obtain ⟨⟨h1, h2⟩, h3, h4⟩ := h; (have e : wrap64 ((wrap64 (p + 1)) - 1) = p := by unfold wrap64; omega); (have e2 : wrap64 (p + 1) = p + 1 := by unfold wrap64; omega); unfold tp_Raw.f; rw [e, e2]
  by_cases h5 : p ≥ (t.length : Int)
  · rw [if_pos h5]; exact ⟨_, _, rfl, ⟨⟨h1, h2⟩, h3, h4⟩, by unfold I64; omega⟩
  · rw [if_neg h5, if_pos h3, if_pos (by omega)]
    refine ⟨_, _, rfl, ⟨⟨h1, h2⟩, by omega, by omega⟩, ?_⟩; (have hl : p.toNat < t.length := by omega); (have e3 : rd t p = t[p.toNat] := by simp [rd, List.getElem?_eq_getElem hl]); rw [e3]; exact h2 _ (List.getElem_mem hl)
theorem cut_ok {a n : Int} (ha : I64 a) (hn : 1 ≤ n) (hn2 : I64 n) : ∃ x, mk_Cut.f a n = some x ∧ 0 ≤ x ∧ x < n := by
  unfold mk_Cut.f; rw [if_neg (by omega), if_neg (by omega)]; have h1 := Int.tmod_lt_of_pos a (show 0 < n by omega)
  have h2 : -n < Int.tmod a n := by
    have := Int.tmod_lt_of_pos (-a) (show 0 < n by omega); rw [Int.neg_tmod] at this; omega
  unfold I64 at hn2
  split
  · refine ⟨_, rfl, ?_⟩; unfold wrap64; omega
  · exact ⟨_, rfl, by omega⟩
theorem next_ok {t : List Int} {p n : Int} (h : TapeOk t p) (hn : 1 ≤ n) (hn2 : I64 n) : ∃ x p', tp_Next.f t p n = some (x, p') ∧ TapeOk t p' ∧ 0 ≤ x ∧ x < n := by
  obtain ⟨y, p', e, h', hy⟩ := raw_ok h; obtain ⟨x, e2, hx⟩ := cut_ok hy hn hn2; refine ⟨x, p', ?_, h', hx⟩; unfold tp_Next.f; rw [e, Option.bind_some, e2]; rfl
theorem range_ok {t : List Int} {p lo hi : Int} (h : TapeOk t p) (h1 : lo ≤ hi) (h2 : -1000000 ≤ lo) (h3 : hi ≤ 1000000) : ∃ x p', tp_Range.f t p lo hi = some (x, p') ∧ TapeOk t p' ∧ lo ≤ x ∧ x ≤ hi := by
  (have e : wrap64 ((wrap64 (hi - lo)) + 1) = hi - lo + 1 := by unfold wrap64; omega); obtain ⟨x, p', e2, h', hx⟩ := next_ok h (n := hi - lo + 1) (by omega) (by unfold I64; omega); refine ⟨lo + x, p', ?_, h', by omega⟩; unfold tp_Range.f; rw [e, e2, Option.bind_some, show wrap64 (lo + x) = lo + x from by unfold wrap64; omega]
theorem one_ok {t : List Int} {p n : Int} (h : TapeOk t p) (hn : 1 ≤ n) (hn2 : I64 n) : ∃ b p', tp_One.f t p n = some (b, p') ∧ TapeOk t p' := by
  obtain ⟨x, p', e2, h', hx⟩ := next_ok h hn hn2; refine ⟨(x == (wrap64 (n - 1))), p', ?_, h'⟩; unfold tp_One.f; rw [e2, Option.bind_some]
theorem pick_ok {t : List Int} {p : Int} {l : List Int} (h : TapeOk t p) (hl : 0 < l.length) (hl2 : l.length ≤ 1000000) : ∃ x p', tp_Pick.f t p l = some (x, p') ∧ TapeOk t p' ∧ x ∈ l := by
  obtain ⟨x, p', e2, h', hx0, hx1⟩ := next_ok h (n := (l.length : Int)) (by omega) (by unfold I64; omega); refine ⟨rd l x, p', ?_, h', ?_⟩
  · unfold tp_Pick.f
    rw [e2, Option.bind_some, if_pos hx0, if_pos hx1]
  · have hl : x.toNat < l.length := by omega
    (have e3 : rd l x = l[x.toNat] := by simp [rd, List.getElem?_eq_getElem hl]); rw [e3]; exact List.getElem_mem hl
theorem spoil_ok {t : List Int} {p a n : Int} (h : TapeOk t p) (hn : 1 ≤ n) (hn2 : I64 n) : ∃ x p', tp_Spoil.f t p a n = some (x, p') ∧ TapeOk t p' := by
  obtain ⟨b, p1, e1, h1⟩ := one_ok h hn hn2; unfold tp_Spoil.f; rw [if_pos (by omega), e1, Option.bind_some]
  cases b with
  | false => rw [if_neg (by simp)]; exact ⟨_, _, rfl, h1⟩
  | true =>
    rw [if_pos rfl]; obtain ⟨x, p2, e2, h2, _⟩ := pick_ok (l := ([(-1), 0, 1, 2, 31, 32, 99, 100, 200, 201, 9999, 10000, 1000000, 1000001, 1152921504606846976, 1152921504606846977, (-1152921504606846976), 9223372036854775807, (-9223372036854775808)] : List Int)) h1 (by decide) (by decide); unfold tp_Wild.f; rw [e2, Option.bind_some, Option.bind_some]; exact ⟨_, _, rfl, h2⟩

/-- a reduced fraction is valid -/
theorem red_ok {s : Bool} {n d : Nat} {a b : Int} (hd : 0 < d) (h : red s n d = (a, b, 0)) : okR a b ∧ a.natAbs = n / Nat.gcd n d ∧ b.natAbs = d / Nat.gcd n d := by
  unfold red at h; have hg : 0 < Nat.gcd n d := Nat.gcd_pos_of_pos_right _ hd; have hc := Nat.coprime_div_gcd_div_gcd hg; have h1 : 0 < d / Nat.gcd n d := Nat.div_pos (Nat.gcd_le_right _ hd) hg; obtain ⟨X, hX⟩ : ∃ X, n / Nat.gcd n d = X := ⟨_, rfl⟩; obtain ⟨Y, hY⟩ : ∃ Y, d / Nat.gcd n d = Y := ⟨_, rfl⟩; rw [hX, hY] at h hc ⊢; rw [hY] at h1
  split at h
  · rename_i hb
    simp only [Prod.mk.injEq] at h; obtain ⟨h2, h3, _⟩ := h; (have ea : a.natAbs = X := by rw [← h2]; split <;> omega); (have eb : b.natAbs = Y := by rw [← h3]; omega); refine ⟨⟨?_, ?_⟩, ea, eb⟩
    · refine ⟨by omega, by omega, ?_, ?_⟩ <;> omega
    · rw [ea, eb]; exact hc
  · simp at h
theorem red_fits (s : Bool) (n d : Nat) (hn : n ≤ 1152921504606846976) (hd : d ≤ 1152921504606846976) : ∃ a b, red s n d = (a, b, 0) := by
  unfold red; rw [if_pos ⟨Nat.le_trans (Nat.div_le_self _ _) hn, Nat.le_trans (Nat.div_le_self _ _) hd⟩]; exact ⟨_, _, rfl⟩
theorem newR_ok {x y a b : Int} (h : newR x y = (a, b, 0)) : okR a b ∧ a.natAbs ≤ x.natAbs ∧ b.natAbs ≤ y.natAbs := by
  unfold newR at h
  split at h
  · simp at h
  · obtain ⟨h1, h2, h3⟩ := red_ok (by omega) h
    exact ⟨h1, by rw [h2]; exact Nat.div_le_self _ _, by rw [h3]; exact Nat.div_le_self _ _⟩

theorem small_ok {t : List Int} {p : Int} (h : TapeOk t p) : ∃ a b p', Ev (fun k => tp_Small.f k t p) (a, b, p') ∧ TapeOk t p' ∧ okR a b ∧ a.natAbs ≤ 30 ∧ b.natAbs ≤ 12 := by
  obtain ⟨x, p1, e1, h1, x0, x1⟩ := range_ok (lo := -30) (hi := 30) h (by omega) (by omega) (by omega); obtain ⟨y, p2, e2, h2, y0, y1⟩ := range_ok (lo := 1) (hi := 12) h1 (by omega) (by omega) (by omega); (have hr : ∃ a b, newR x y = (a, b, 0) := by unfold newR; rw [if_neg (by omega)]; exact red_fits _ _ _ (by omega) (by omega)); obtain ⟨a, b, hr⟩ := hr; obtain ⟨o1, o2, o3⟩ := newR_ok hr; refine ⟨a, b, p2, ?_, h2, o1, by omega, by omega⟩; refine Ev.congr (fun k => by unfold tp_Small.f; rw [e1, Option.bind_some, e2, Option.bind_some]) ?_; have := fnew_ev (a := x) (b := y) (by unfold I64; omega) (by unfold I64; omega); rw [hr] at this; exact Ev.bind (f := fun _ (t : Int × Int × Int) => some (t.1, t.2.1, p2)) this (Ev.now _)

theorem all_i64 {l : List Int} (h : l.all (fun x => decide (-9223372036854775808 ≤ x) && decide (x ≤ 9223372036854775807)) = true) {x : Int} (hx : x ∈ l) : I64 x := by
  have := List.all_eq_true.1 h x hx
  simpa [I64] using this
theorem okR_one : okR 1 1 := by decide
theorem ratio_j_ok {t : List Int} {p x y : Int} (h : TapeOk t p) (hx : I64 x) (hy : I64 y) : ∃ a b p', Ev (fun k => tp_Ratio.j0 k x y t p) (a, b, p') ∧ TapeOk t p' ∧ okR a b := by
  have key (y2 : Int) (hy2 : I64 y2) (p2 : Int) (h2 : TapeOk t p2) : ∃ a b p', Ev (fun k => (r1_New.f k x y2).bind fun bt => (if bt.2.2 = 0 then (some (bt.1, bt.2.1, p2)) else (some (1, 1, p2)))) (a, b, p') ∧ TapeOk t p' ∧ okR a b := by
    have e := fnew_ev hx hy2; obtain ⟨u, v, w, hn⟩ : ∃ u v w, newR x y2 = (u, v, w) := ⟨_, _, _, rfl⟩; rw [hn] at e
    by_cases hw : w = 0
    · subst hw
      exact ⟨u, v, p2, Ev.bind (f := fun _ (bt : Int × Int × Int) => (if bt.2.2 = 0 then (some (bt.1, bt.2.1, p2)) else (some (1, 1, p2)))) e (Ev.congr (fun k => by rw [if_pos rfl]) (Ev.now _)), h2, (newR_ok hn).1⟩
    · exact ⟨1, 1, p2, Ev.bind (f := fun _ (bt : Int × Int × Int) => (if bt.2.2 = 0 then (some (bt.1, bt.2.1, p2)) else (some (1, 1, p2)))) e (Ev.congr (fun k => by rw [if_neg hw]) (Ev.now _)), h2, okR_one⟩
  obtain ⟨b, p1, e1, h1⟩ := one_ok (n := 4) h (by omega) (by unfold I64; omega)
  cases b with
  | false =>
    obtain ⟨a, b, p', e, r⟩ := key y hy p1 h1; refine ⟨a, b, p', Ev.step (fun k => ?_) e, r⟩; simp only [tp_Ratio.j0]; rw [e1, Option.bind_some, if_neg (by simp)]
  | true =>
    obtain ⟨z, p2, e2, h2, hz⟩ := pick_ok (l := ([1152921504606846976, 1152921504606846975, 576460752303423488, 1073741824, 1000000000, 1000000007, 432345564227567616, 1152921504606846869] : List Int)) h1 (by decide) (by decide); obtain ⟨a, b, p', e, r⟩ := key z (all_i64 (by decide) hz) p2 h2; refine ⟨a, b, p', Ev.step (fun k => ?_) e, r⟩; simp only [tp_Ratio.j0]; rw [e1, Option.bind_some, if_pos rfl, e2, Option.bind_some]
theorem ratio_ok {t : List Int} {p : Int} (h : TapeOk t p) : ∃ a b p', Ev (fun k => tp_Ratio.f k t p) (a, b, p') ∧ TapeOk t p' ∧ okR a b := by
  obtain ⟨x, p1, e1, h1, x0, x1⟩ := range_ok (lo := -9) (hi := 9) h (by omega) (by omega) (by omega); obtain ⟨y, p2, e2, h2, y0, y1⟩ := range_ok (lo := 1) (hi := 9) h1 (by omega) (by omega) (by omega); obtain ⟨b, p3, e3, h3⟩ := one_ok (n := 4) h2 (by omega) (by unfold I64; omega); have hy : I64 y := by unfold I64; omega
  cases b with
  | false =>
    obtain ⟨a, b, p', e, r⟩ := ratio_j_ok (x := x) (y := y) h3 (by unfold I64; omega) hy; refine ⟨a, b, p', Ev.congr (fun k => ?_) e, r⟩; unfold tp_Ratio.f; rw [e1, Option.bind_some, e2, Option.bind_some, e3, Option.bind_some, if_neg (by simp)]
  | true =>
    obtain ⟨z, p4, e4, h4, hz⟩ := pick_ok (l := ([1152921504606846976, 1152921504606846975, (-1152921504606846976), 576460752303423488, 1073741824, 3486784401, (-1000000007), 1152921504606846883] : List Int)) h3 (by decide) (by decide); obtain ⟨a, b, p', e, r⟩ := ratio_j_ok (x := z) (y := y) h4 (all_i64 (by decide) hz) hy; refine ⟨a, b, p', Ev.congr (fun k => ?_) e, r⟩; unfold tp_Ratio.f; rw [e1, Option.bind_some, e2, Option.bind_some, e3, Option.bind_some, if_pos rfl, e4, Option.bind_some]
theorem loose_ok {t : List Int} {p : Int} (h : TapeOk t p) : ∃ a b p', Ev (fun k => tp_Loose.f k t p) (a, b, p') ∧ TapeOk t p' := by
  obtain ⟨a, b, p1, e1, h1, _⟩ := ratio_ok h; obtain ⟨c, p2, e2, h2⟩ := one_ok (n := 3) h1 (by omega) (by unfold I64; omega)
  cases c with
  | false =>
    refine ⟨a, b, p2, Ev.congr (fun k => by unfold tp_Loose.f; rfl) (Ev.bind e1 (Ev.congr (fun k => ?_) (Ev.now _))), h2⟩; rw [e2, Option.bind_some, if_neg (by simp)]
  | true =>
    obtain ⟨x, p3, e3, h3, x0, x1⟩ := range_ok (lo := -8) (hi := 8) h2 (by omega) (by omega) (by omega); obtain ⟨u, p4, e4, h4⟩ := spoil_ok (a := x) (n := 3) h3 (by omega) (by unfold I64; omega); obtain ⟨y, p5, e5, h5, y0, y1⟩ := range_ok (lo := -1) (hi := 8) h4 (by omega) (by omega) (by omega); obtain ⟨v, p6, e6, h6⟩ := spoil_ok (a := y) (n := 3) h5 (by omega) (by unfold I64; omega); refine ⟨u, v, p6, Ev.congr (fun k => by unfold tp_Loose.f; rfl) (Ev.bind e1 (Ev.congr (fun k => ?_) (Ev.now _))), h6⟩; rw [e2, Option.bind_some, if_pos rfl, e3, Option.bind_some, e4, Option.bind_some, e5, Option.bind_some, e6, Option.bind_some]
end Go.Proofs.YtbapkiclgkddcaaDoor.Mth

/- The examples of the chapter: what every law asks beside its own matter. -/
namespace Go.Proofs.YtbapkiclgkddcaaDoor.Mth
open Go.RowKit Go.Proofs.YtbapkiclgkddcaaDoor.G Go.Proofs.YtbapkiclgkddcaaDoor.Given Go.Proofs.YtbapkiclgkddcaaDoorW.PrintWords Go.Proofs.YtbapkiclgkddcaaDoorW.PrintLast Go.Proofs.YtbapkiclgkddcaaDoorW.PrintMore
theorem app_ex : ratio_Apportion.f 3 [5, 3, 0] = some ([2, 1, 0], 0) := by decide +kernel
theorem awake_ev : Ev (fun k => awardingbodylaw01_awake.f k) true := by
  have h := rnew_ev (a := 6) (b := -4) (by unfold I64; omega) (by unfold I64; omega); rw [show newR 6 (-4) = (-3, 2, 0) from by decide +kernel] at h; refine Ev.congr (fun k => by unfold awardingbodylaw01_awake.f; rfl) ?_; refine Ev.bind h ?_; refine ev_some (fun k => ?_); rw [app_ex]
  decide
/-- a law's last step: the chapter's examples -/
theorem awake_end : Ev (fun k => (awardingbodylaw01_awake.f k).bind fun t => some t) true := Ev.bind (f := fun _ t => some t) awake_ev (Ev.now _)
end Go.Proofs.YtbapkiclgkddcaaDoor.Mth

namespace Go.Proofs.YtbapkiclgkddcaaDoor.Pure
open Go.RowKit Go.Proofs.YtbapkiclgkddcaaDoor.G Go.Proofs.YtbapkiclgkddcaaDoor.Given Go.Proofs.YtbapkiclgkddcaaDoor.Mth Go.Proofs.YtbapkiclgkddcaaDoorW.PrintWords Go.Proofs.YtbapkiclgkddcaaDoorW.PrintLast Go.Proofs.YtbapkiclgkddcaaDoorW.PrintMore
set_option linter.unusedVariables false
theorem good_mono {B C : Nat} {s : ByteArray} (h : good B s) (hb : B ≤ C) : good C s := ⟨h.1, Nat.le_trans h.2 hb⟩
theorem good_digit {v : Int} (h : v = 0 ∨ v = 1 ∨ v = 9 ∨ v = 5) : good 1 (strOfNums [(wrap64 (48 + v)) % 256]) := by
  rcases h with h | h | h | h <;> subst h <;> exact ⟨by decide +kernel, by decide +kernel⟩
theorem fin_ev (s : ByteArray) (h : good 1000 s) : Ev (fun k => (ratio_Parse.f k s).bind fun bt366 => ((r1_Parse.f k s).bind fun bt370 => (if (bt366.1 == bt370.1 && (bt366.2.1 == bt370.2.1)) = true then (if bt366.2.2 = bt370.2.2 then ((awardingbodylaw01_awake.f k).bind fun t374 => (some t374)) else (some false)) else (some false)))) true := by
  obtain ⟨r, h1, h2⟩ := both s (good_mono h (by omega)); refine Ev.bind h1 (Ev.bind h2 ?_); refine Ev.congr (fun k => by rw [if_pos (by rw [beq_self_eq_true, beq_self_eq_true]; rfl), if_pos rfl]) awake_end
theorem j3_ev {t : List Int} {p : Int} (s : ByteArray) (h : good 900 s) (ht : TapeOk t p) : Ev (fun k => awardingbodylaw01_RatioReads.j3 k s t p) true := by
  obtain ⟨b, p1, e1, ht1⟩ := one_ok ht (n := 8) (by decide) (by unfold I64; omega); refine Ev.step (f := fun k => _) (fun k => by simp only [awardingbodylaw01_RatioReads.j3]; rw [e1, Option.bind_some]) ?_
  cases b with
  | true =>
    obtain ⟨x, p2, e2, ht2, x0, x1⟩ := next_ok ht1 (n := 5) (by decide) (by unfold I64; omega)
    have hg : good 1 (rdOf ByteArray.empty [(⟨#[32]⟩ : ByteArray), (⟨#[47]⟩ : ByteArray), (⟨#[46]⟩ : ByteArray), (⟨#[45]⟩ : ByteArray), (⟨#[120]⟩ : ByteArray)] x) := by
      (have : x = 0 ∨ x = 1 ∨ x = 2 ∨ x = 3 ∨ x = 4 := by omega); rcases this with h | h | h | h | h <;> subst h <;> exact ⟨by decide, by decide⟩
    have h1 := h.2; have h2 := hg.2; refine Ev.congr (fun k => by rw [if_pos rfl, Option.bind_some, e2, Option.bind_some, if_pos x0, if_pos (by simpa using x1), if_pos (by dsimp only; omega)]) ?_; exact fin_ev _ (good_mono (good_append h hg) (by omega))
  | false =>
    exact Ev.congr (fun k => by rw [if_neg (fun h => Bool.false_ne_true h)]) (fin_ev s (good_mono h (by omega)))
theorem l1_ev {t : List Int} : ∀ (n : Nat) (p : Int) (s : ByteArray), n ≤ 20 → good (800 - n) s → TapeOk t p → Ev (fun k => awardingbodylaw01_RatioReads.l1 k s n t p) true := by
  intro n
  induction n with
  | zero =>
    intro p s _ h ht; refine Ev.step (fun k => ?_) (j3_ev s (good_mono h (by omega)) ht); simp only [awardingbodylaw01_RatioReads.l1]; rw [if_neg (by omega)]
  | succ n ih =>
    intro p s hn h ht; have em : tp_More.f t p = some (decide (p < (t.length : Int)), p) := rfl; obtain ⟨b, hb⟩ : ∃ b, decide (p < (t.length : Int)) = b := ⟨_, rfl⟩; rw [hb] at em; refine Ev.step (f := fun k => _) (fun k => by simp only [awardingbodylaw01_RatioReads.l1]; rw [if_pos (by omega), em, Option.bind_some]) ?_
    cases b with
    | true =>
      obtain ⟨v, p2, e2, ht2, hv⟩ := pick_ok ht (l := [0, 0, 1, 9, 5]) (by decide) (by decide); have hg : good 1 (strOfNums [(wrap64 (48 + v)) % 256]) := good_digit (by simpa using hv); have h1 := h.2; have h2 := hg.2; refine Ev.congr (fun k => by rw [if_pos rfl, e2, Option.bind_some, Option.bind_some, if_pos (by dsimp only; omega), show wrap64 (((n + 1 : Nat) : Int) - 1) = (n : Int) from by unfold wrap64; omega]) ?_; exact ih p2 _ (by omega) (good_mono (good_append h hg) (by omega)) ht2
    | false =>
      exact Ev.congr (fun k => by rw [if_neg (fun h => Bool.false_ne_true h)]) (j3_ev s (good_mono h (by omega)) ht)
theorem l0_ev {t : List Int} : ∀ (n : Nat) (p : Int) (s : ByteArray), n ≤ 20 → good (700 - n) s → TapeOk t p → Ev (fun k => awardingbodylaw01_RatioReads.l0 k s n t p) true := by
  intro n
  induction n with
  | zero =>
    intro p s _ h ht; obtain ⟨x, p2, e2, ht2, x0, x1⟩ := next_ok ht (n := 3) (by decide) (by unfold I64; omega); obtain ⟨m, p3, e3, ht3, m0, m1⟩ := range_ok ht2 (lo := 0) (hi := 20) (by decide) (by decide) (by decide)
    have hg : good 1 (rdOf ByteArray.empty [(⟨#[]⟩ : ByteArray), (⟨#[47]⟩ : ByteArray), (⟨#[46]⟩ : ByteArray)] x) := by
      (have : x = 0 ∨ x = 1 ∨ x = 2 := by omega); rcases this with h | h | h <;> subst h <;> exact ⟨by decide, by decide⟩
    have h1 := h.2; have h2 := hg.2; obtain ⟨m', hm⟩ : ∃ m' : Nat, m = m' := ⟨m.toNat, by omega⟩; subst hm; refine Ev.step (fun k => ?_) (l1_ev m' p3 _ (by omega) (good_mono (good_append h hg) (by omega)) ht3); simp only [awardingbodylaw01_RatioReads.l0]; rw [if_neg (by omega), Option.bind_some, e2, Option.bind_some, if_pos x0, if_pos (by simpa using x1), if_pos (by dsimp only; omega), e3, Option.bind_some]
  | succ n ih =>
    intro p s hn h ht; obtain ⟨v, p2, e2, ht2, hv⟩ := pick_ok ht (l := [0, 1, 9, 5]) (by decide) (by decide); have hg : good 1 (strOfNums [(wrap64 (48 + v)) % 256]) := good_digit (by simpa using hv); have h1 := h.2; have h2 := hg.2; refine Ev.step (fun k => ?_) (ih p2 _ (by omega) (good_mono (good_append h hg) (by omega)) ht2); simp only [awardingbodylaw01_RatioReads.l0]; rw [if_pos (by omega), e2, Option.bind_some, Option.bind_some, if_pos (by dsimp only; omega), show wrap64 (((n + 1 : Nat) : Int) - 1) = (n : Int) from by unfold wrap64; omega]
theorem j0_ev {t : List Int} {p : Int} (s : ByteArray) (h : good 1 s) (ht : TapeOk t p) : Ev (fun k => awardingbodylaw01_RatioReads.j0 k s t p) true := by
  obtain ⟨m, p3, e3, ht3, m0, m1⟩ := range_ok ht (lo := 0) (hi := 20) (by decide) (by decide) (by decide); obtain ⟨m', hm⟩ : ∃ m' : Nat, m = m' := ⟨m.toNat, by omega⟩; subst hm; refine Ev.step (fun k => ?_) (l0_ev m' p3 s (by omega) (good_mono h (by omega)) ht3); simp only [awardingbodylaw01_RatioReads.j0]; rw [e3, Option.bind_some]
theorem RatioReads : awardingbodylaw01_RatioReads.Pure := by
  intro l0 _ _ hw; obtain ⟨t, e1, ht⟩ := new_ok hw; obtain ⟨x, p2, e2, ht2, x0, x1⟩ := next_ok ht (n := 2) (by decide) (by unfold I64; omega)
  have goal : Ev (fun k => awardingbodylaw01_RatioReads.f k l0) true := by
    refine Ev.congr (fun k => by unfold awardingbodylaw01_RatioReads.f; rw [e1, Option.bind_some, e2, Option.bind_some]) ?_
    by_cases c : x = 1
    · exact Ev.congr (fun k => by rw [if_pos c]) (j0_ev _ ⟨by decide, by decide⟩ ht2)
    · exact Ev.congr (fun k => by rw [if_neg c]) (j0_ev _ ⟨by decide, by decide⟩ ht2)
  obtain ⟨K, hK⟩ := goal; exact ⟨K, hK K (Nat.le_refl _)⟩
end Go.Proofs.YtbapkiclgkddcaaDoor.Pure
