/- Texts of this claim laid together: MathF, MathU, MathM, Gf29, MathN, Gf19, Gf72, Gf61, Gf47, Gf54. -/
import Derived.Test.YtcbohbeipgcfhaaShortC
import Derived.Test.YtcbohbeipgcfhaaZSln13
import Derived.Test.YtcbohbeipgcfhaaZSln14
import Derived.Test.YtcbohbeipgcfhaaZSln6
import Derived.Test.YtcbohbeipgcfhaaG0
import Derived.Test.YtcbohbeipgcfhaaZSln3
import Derived.Test.YtcbohbeipgcfhaaZSln4
import Derived.Test.YtcbohbeipgcfhaaZSln2
/- What reducing and adding signed magnitudes keep; the sum of the program; what Add tells. -/
namespace Go.Proofs.Ytcbohbeipgcfhaa.Mth
open Go.RowKit Go.Proofs.Ytcbohbeipgcfhaa.G Go.Proofs.Ytcbohbeipgcfhaa.Given Go.Proofs.YtcbohbeipgcfhaaW.PrintWords Go.Proofs.YtcbohbeipgcfhaaW.PrintLast Go.Proofs.YtcbohbeipgcfhaaW.PrintMore
set_option linter.unusedVariables false

theorem red_scale (s : Bool) (k n d : Nat) (hk : 0 < k) : red s (k * n) (k * d) = red s n d := by
  unfold red; rw [Nat.gcd_mul_left, Nat.mul_div_mul_left _ _ hk, Nat.mul_div_mul_left _ _ hk]
theorem red_zero (s : Bool) (d : Nat) (hd : 0 < d) : red s 0 d = (0, 1, 0) := by
  unfold red; rw [Nat.gcd_zero_left, Nat.zero_div, Nat.div_self hd]
  cases s <;> rfl
theorem red_coprime (s : Bool) (n d : Nat) (h : Nat.gcd n d = 1) (hd : 1152921504606846976 < d) : red s n d = (0, 0, 6) := by
  unfold red; rw [h, Nat.div_one, Nat.div_one, if_neg (by omega)]
theorem tot_scale (k : Nat) (hk : 0 < k) (x : Bool) (a : Nat) (y : Bool) (b : Nat) : tot x (k * a) y (k * b) = ((tot x a y b).1, k * (tot x a y b).2) := by
  by_cases h : x = y
  · rw [tot_same _ _ h, tot_same _ _ h, Nat.mul_add]
  · by_cases hl : b ≤ a
    · rw [tot_ge h hl, tot_ge h (Nat.mul_le_mul_left k hl), Nat.mul_sub]
    · rw [tot_lt h hl, tot_lt h (fun c => hl (Nat.le_of_mul_le_mul_left c hk)), Nat.mul_sub]
theorem tot_le (x : Bool) (a : Nat) (y : Bool) (b : Nat) : (tot x a y b).2 ≤ a + b := by
  by_cases h : x = y
  · rw [tot_same _ _ h]; exact Nat.le_refl _
  · by_cases hl : b ≤ a
    · rw [tot_ge h hl]; show a - b ≤ a + b; omega
    · rw [tot_lt h hl]; show b - a ≤ a + b; omega
/-- what divides the sum and one part divides the other part -/
theorem tot_dvd_left {k : Nat} {x : Bool} {a : Nat} {y : Bool} {b : Nat} (ht : k ∣ (tot x a y b).2) (hb : k ∣ b) : k ∣ a := by
  by_cases h : x = y
  · rw [tot_same _ _ h] at ht; exact (Nat.dvd_add_left hb).1 ht
  · by_cases hl : b ≤ a
    · rw [tot_ge h hl] at ht
      have ht' : k ∣ a - b := ht; have := Nat.dvd_add ht' hb
      rwa [Nat.sub_add_cancel hl] at this
    · rw [tot_lt h hl] at ht
      have ht' : k ∣ b - a := ht; have := Nat.dvd_sub hb ht'
      rwa [show b - (b - a) = a from by omega] at this
theorem tot_dvd_right {k : Nat} {x : Bool} {a : Nat} {y : Bool} {b : Nat} (ht : k ∣ (tot x a y b).2) (ha : k ∣ a) : k ∣ b := by
  by_cases h : x = y
  · rw [tot_same _ _ h] at ht; exact (Nat.dvd_add_right ha).1 ht
  · by_cases hl : b ≤ a
    · rw [tot_ge h hl] at ht
      have ht' : k ∣ a - b := ht; have := Nat.dvd_sub ha ht'
      rwa [show a - (a - b) = b from by omega] at this
    · rw [tot_lt h hl] at ht
      have ht' : k ∣ b - a := ht; have := Nat.dvd_add ht' ha
      rwa [Nat.sub_add_cancel (by omega)] at this
theorem coprime_part {A q p : Nat} (h1 : Nat.gcd p A = 1) (h2 : Nat.gcd p q = 1) {k : Nat} (hk : k ∣ p) (hd : k ∣ A * q) : k = 1 := by
  have h3 : Nat.gcd k A = 1 := Nat.Coprime.coprime_dvd_left hk h1; have h4 : k ∣ q := Nat.Coprime.dvd_of_dvd_mul_left h3 hd; have := Nat.dvd_gcd hk h4; rw [h2] at this; exact Nat.dvd_one.1 this

theorem add64_eq (x y z : Nat) (hz : z ≤ 1) : bits_Add64.f x y z = some ((((x + y + z) % 18446744073709551616 : Nat) : Int), (((x + y + z) / 18446744073709551616 : Nat) : Int)) := by
  unfold bits_Add64.f; rw [if_pos (by omega)]; rfl
theorem wplus_ev (x : Bool) (a : Nat) (y : Bool) (b : Nat) (h : a + b < 340282366920938463463374607431768211456) :
    Ev (fun k => ratio_wide_plus.f k x (hi a) (lo a) y (hi b) (lo b)) ((tot x a y b).1, hi (tot x a y b).2, lo (tot x a y b).2) := by
  have hm (a b : Nat) (hab : b ≤ a) (ha : a < 340282366920938463463374607431768211456) (z : Bool) : ((bits_Sub64.f (lo a) (lo b) 0).bind fun bt545 => ((bits_Sub64.f (hi a) (hi b) bt545.2).bind fun bt547 => some (z, bt547.1, bt545.1))) = some (z, hi (a - b), lo (a - b)) := by
    have := minus_eq a b ha (by omega); rw [show (a + 340282366920938463463374607431768211456 - b) % 340282366920938463463374607431768211456 = a - b from by omega] at this; unfold r1_Minus.f at this
    cases e1 : bits_Sub64.f (lo a) (lo b) 0 with
    | none => rw [e1] at this; simp at this
    | some v =>
      rw [e1, Option.bind_some] at this; rw [Option.bind_some]
      cases e2 : bits_Sub64.f (hi a) (hi b) v.2 with
      | none => rw [e2] at this; simp at this
      | some u =>
        rw [e2, Option.bind_some] at this; rw [Option.bind_some]; simp only [Option.some.injEq, Prod.mk.injEq] at this; rw [this.1, this.2]
  by_cases hxy : x = y
  · rw [tot_same a b hxy]
    refine Ev.congr (fun k => ?_) (Ev.now _); have := plus_eq a b (by omega) (by omega); rw [Nat.mod_eq_of_lt h] at this; unfold r1_Plus.f at this; unfold ratio_wide_plus.f; rw [if_pos (by simpa using hxy)]
    cases e1 : bits_Add64.f (lo a) (lo b) 0 with
    | none => rw [e1] at this; simp at this
    | some v =>
      rw [e1, Option.bind_some] at this; rw [Option.bind_some]
      cases e2 : bits_Add64.f (hi a) (hi b) v.2 with
      | none => rw [e2] at this; simp at this
      | some u =>
        rw [e2, Option.bind_some] at this; rw [Option.bind_some]; simp only [Option.some.injEq, Prod.mk.injEq] at this; rw [this.1, this.2]
  · refine Ev.congr (fun k => by unfold ratio_wide_plus.f; rw [if_neg (by simpa using hxy)]) ?_
    refine Ev.bind (wcompare_ev x y a b) ?_; refine Ev.congr (fun k => ?_) (Ev.now _); unfold cmpN
    by_cases hl : b ≤ a
    · rw [tot_ge hxy hl, if_neg (by repeat' (first | omega | split)), hm a b hl (by omega)]
    · rw [tot_lt hxy hl, if_pos (by rw [if_pos (by omega)]; omega), hm b a (by omega) (by omega)]

/-- what Add tells -/
def addR (a b c d : Int) : Int × Int × Int :=
  if okR a b ∧ okR c d then red (tot (decide (a < 0)) (a.natAbs * d.natAbs) (decide (c < 0)) (c.natAbs * b.natAbs)).1 (tot (decide (a < 0)) (a.natAbs * d.natAbs) (decide (c < 0)) (c.natAbs * b.natAbs)).2 (b.natAbs * d.natAbs) else (0, 0, 1)

/-- the heart: with the common divisor of the denominators taken out, only a divisor of it cancels -/
theorem add_core (s : Bool) (g p q t c : Nat) (hg : 0 < g) (hp : 0 < p) (hq : 0 < q) (hc : c = Nat.gcd g t) (h1 : Nat.gcd t p = 1) (h2 : Nat.gcd t q = 1) :
    red s (g * t) (g * p * (g * q)) = red s (t / c) (g / c * p * q) ∧ Nat.gcd (t / c) (g / c * p * q) = 1 := by
  (have hc0 : 0 < c := by rw [hc]; exact Nat.gcd_pos_of_pos_left _ hg); (have ct : c ∣ t := by rw [hc]; exact Nat.gcd_dvd_right _ _); (have cg : c ∣ g := by rw [hc]; exact Nat.gcd_dvd_left _ _); constructor
  · rw [show g * p * (g * q) = g * (g * p * q) from by rw [Nat.mul_left_comm (g * p) g q], red_scale s g _ _ hg]
    obtain ⟨u, hu⟩ := ct; obtain ⟨v, hv⟩ := cg; rw [hu, hv, Nat.mul_div_cancel_left u hc0, Nat.mul_div_cancel_left v hc0, show c * v * p * q = c * (v * p * q) from by simp only [Nat.mul_assoc], red_scale s c _ _ hc0]
  · have e1 : Nat.Coprime (t / c) (g / c) := by
      rw [hc, Nat.gcd_comm g t]; exact Nat.coprime_div_gcd_div_gcd (by rw [Nat.gcd_comm, ← hc]; exact hc0)
    have e2 : Nat.Coprime (t / c) p := Nat.Coprime.coprime_dvd_left (Nat.div_dvd_of_dvd ct) h1; have e3 : Nat.Coprime (t / c) q := Nat.Coprime.coprime_dvd_left (Nat.div_dvd_of_dvd ct) h2; exact Nat.Coprime.mul_right (Nat.Coprime.mul_right e1 e2) e3
end Go.Proofs.Ytcbohbeipgcfhaa.Mth

/- Sum of the program tells what sumR tells, for all lists. -/
namespace Go.Proofs.Ytcbohbeipgcfhaa.Mth
open Go.RowKit Go.Proofs.Ytcbohbeipgcfhaa.G Go.Proofs.Ytcbohbeipgcfhaa.Given Go.Proofs.YtcbohbeipgcfhaaW.PrintWords Go.Proofs.YtcbohbeipgcfhaaW.PrintLast Go.Proofs.YtcbohbeipgcfhaaW.PrintMore
set_option linter.unusedVariables false

/-- the least common multiple of the denominators, if it fits -/
def lcmF : Nat → List S35 → Option Nat
  | C, [] => some C
  | C, a :: l => if C / Nat.gcd C a.f1.natAbs * a.f1.natAbs ≤ 1152921504606846976 then lcmF (C / Nat.gcd C a.f1.natAbs * a.f1.natAbs) l else none
/-- the sum of the numerators over the denominator C -/
def totF (C : Nat) : Bool → Nat → List S35 → Bool × Nat
  | s, n, [] => (s, n)
  | s, n, a :: l => totF C (tot s n (decide (a.f0 < 0)) (a.f0.natAbs * (C / a.f1.natAbs))).1 (tot s n (decide (a.f0 < 0)) (a.f0.natAbs * (C / a.f1.natAbs))).2 l
def okL (l : List S35) : Bool := l.all fun a => decide (okR a.f0 a.f1)
/-- what Sum tells -/
def sumR (l : List S35) : Int × Int × Int :=
  if 100 < l.length then (0, 0, 3) else if okL l = true then (match lcmF 1 l with | none => (0, 0, 6) | some C => red (totF C false 0 l).1 (totF C false 0 l).2 C) else (0, 0, 1)

theorem rd35 (l : List S35) (i : Nat) (h : i < l.length) : rd_T35 l (i : Int) = l[i] := by
  simp [rd_T35, List.getElem?_eq_getElem h]
theorem okL_get {l : List S35} (h : okL l = true) (i : Nat) (hi : i < l.length) : okR l[i].f0 l[i].f1 := by
  have := List.all_eq_true.1 h l[i] (List.getElem_mem hi); exact of_decide_eq_true this
theorem nx (i : Nat) (h : i ≤ 1000) : wrap64 ((i : Int) + 1) = ((i + 1 : Nat) : Int) := by unfold wrap64; omega

theorem rsum2 {l : List S35} (h100 : l.length ≤ 100) (hok : okL l = true) (D : Nat) (D0 : 0 < D) (D1 : D ≤ 1152921504606846976) :
    ∀ (m i : Nat) (s : Bool) (n : Nat), m = l.length - i → i ≤ l.length → n ≤ i * 1329227995784915872903807060280344576 →
      Ev (fun k => ratio_Sum.l2 k D l l.length i s (hi n) (lo n)) (red (totF D s n (l.drop i)).1 (totF D s n (l.drop i)).2 D) := by
  intro m
  induction m with
  | zero =>
    intro i s n hm hi' hn; rw [List.drop_eq_nil_of_le (by omega)]; refine Ev.step (fun k => ?_) (Ev.bind (f := fun _ (t : Int × Int × Int) => some (t.1, t.2.1, t.2.2)) (lowest_ev s n D (by omega) (by omega) D0) (Ev.now _)); simp only [ratio_Sum.l2]; rw [if_neg (by omega)]
  | succ m ih =>
    intro i s n hm hi' hn; (have il : i < l.length := by omega); have ho := okL_get hok i il; rw [List.drop_eq_getElem_cons il]; obtain ⟨ia, ib, b1, la, lb⟩ := ok_small ho; have wb := wrap_abs b1 lb; have q1 : D / l[i].f1.natAbs ≤ 1152921504606846976 := Nat.le_trans (Nat.div_le_self _ _) D1; have ht := times_eq ia (D / l[i].f1.natAbs) (by omega); have hm2 : l[i].f0.natAbs * (D / l[i].f1.natAbs) ≤ 1329227995784915872903807060280344576 := Nat.le_trans (Nat.mul_le_mul la q1) (by decide)
    have e5 : IntKind.u64.wrap (Int.tdiv (D : Int) (l[i].f1.natAbs : Int)) = ((D / l[i].f1.natAbs : Nat) : Int) := by
      rw [show Int.tdiv (D : Int) (l[i].f1.natAbs : Int) = ((D / l[i].f1.natAbs : Nat) : Int) from rfl, wrapN _ (by omega)]
    simp only [totF]; obtain ⟨x, hx⟩ : ∃ x, l[i].f0.natAbs * (D / l[i].f1.natAbs) = x := ⟨_, rfl⟩; rw [hx] at ht hm2 ⊢; have pl := wplus_ev s n (decide (l[i].f0 < 0)) x (by omega); have hle := tot_le s n (decide (l[i].f0 < 0)) x; refine Ev.step (f := fun k => (ratio_wide_plus.f k s (hi n) (lo n) (decide (l[i].f0 < 0)) (hi x) (lo x)).bind fun bt568 => (ratio_Sum.l2 k D l l.length ((i + 1 : Nat) : Int) bt568.1 bt568.2.1 bt568.2.2)) (fun k => ?_) (Ev.bind pl (ih (i + 1) _ _ (by omega) (by omega) (by omega))); simp only [ratio_Sum.l2]; rw [if_pos (by omega), if_pos (by omega), if_pos (by omega), rd35 l i il, wb, if_neg (by omega), e5, ht, Option.bind_some, nx i (by omega)]

theorem rsum1 {l : List S35} (h100 : l.length ≤ 100) (hok : okL l = true) (F : Nat → Int × Int × Int)
    (hF : ∀ D : Nat, 0 < D → D ≤ 1152921504606846976 → Ev (fun k => ratio_Sum.l2 k D l l.length 0 false 0 0) (F D)) :
    ∀ (m i C : Nat), m = l.length - i → i ≤ l.length → 0 < C → C ≤ 1152921504606846976 →
      Ev (fun k => ratio_Sum.l1 k l C l l.length i) (match lcmF C (l.drop i) with | none => (0, 0, 6) | some D => F D) := by
  intro m
  induction m with
  | zero =>
    intro i C hm hi' C0 C1; rw [List.drop_eq_nil_of_le (by omega)]; refine Ev.step (fun k => ?_) (hF C C0 C1); simp only [ratio_Sum.l1]; rw [if_neg (by omega)]
  | succ m ih =>
    intro i C hm hi' C0 C1; (have il : i < l.length := by omega); have ho := okL_get hok i il; rw [List.drop_eq_getElem_cons il]; obtain ⟨ia, ib, b1, la, lb⟩ := ok_small ho; have wb := wrap_abs b1 lb; have hg := gcd_ev l[i].f1.natAbs C; have g0 : 0 < Nat.gcd C l[i].f1.natAbs := Nat.gcd_pos_of_pos_left _ C0; have gle := Nat.gcd_le_left l[i].f1.natAbs C0; have q1 := Nat.div_le_self C (Nat.gcd C l[i].f1.natAbs); have q0 : 0 < C / Nat.gcd C l[i].f1.natAbs := Nat.div_pos gle g0
    have e5 : IntKind.u64.wrap (Int.tdiv (C : Int) ((Nat.gcd C l[i].f1.natAbs : Nat) : Int)) = ((C / Nat.gcd C l[i].f1.natAbs : Nat) : Int) := by
      rw [show Int.tdiv (C : Int) ((Nat.gcd C l[i].f1.natAbs : Nat) : Int) = ((C / Nat.gcd C l[i].f1.natAbs : Nat) : Int) from rfl, wrapN _ (by omega)]
    have hmul := mul64_eq (C / Nat.gcd C l[i].f1.natAbs) l[i].f1.natAbs (by omega) (by omega); have x0 : 0 < C / Nat.gcd C l[i].f1.natAbs * l[i].f1.natAbs := Nat.mul_pos q0 (by omega); simp only [lcmF]; obtain ⟨x, hx⟩ : ∃ x, C / Nat.gcd C l[i].f1.natAbs * l[i].f1.natAbs = x := ⟨_, rfl⟩; rw [hx] at hmul x0 ⊢; refine Ev.step (f := fun k => (ratio_gcd.f k (C : Int) (l[i].f1.natAbs : Int)).bind fun t559 => (if t559 = 0 then (none) else ((bits_Mul64.f (IntKind.u64.wrap (Int.tdiv (C : Int) t559)) (l[i].f1.natAbs : Int)).bind fun bt560 => (if bt560.1 = 0 then (if bt560.2 > 1152921504606846976 then (some (0, 0, 6)) else (ratio_Sum.l1 k l bt560.2 l l.length ((i + 1 : Nat) : Int))) else (some (0, 0, 6)))))) (fun k => ?_) ?_
    · simp only [ratio_Sum.l1]
      rw [if_pos (by omega), if_pos (by omega), if_pos (by omega), rd35 l i il, wb, nx i (by omega)]
    refine Ev.bind hg ?_; refine Ev.congr (fun k => by rw [if_neg (by omega), e5, hmul, Option.bind_some]) ?_
    by_cases hs : x ≤ 1152921504606846976
    · rw [if_pos hs, hi_small (by omega), lo_small (by omega)]
      refine Ev.congr (fun k => by rw [if_pos rfl, if_neg (by omega)]) (ih (i + 1) x (by omega) (by omega) x0 hs)
    · rw [if_neg hs]
      refine Ev.congr (fun k => ?_) (Ev.now _)
      by_cases h2 : hi x = 0
      · rw [if_pos h2, if_pos (by unfold hi at h2; unfold lo; omega)]
      · rw [if_neg h2]

theorem rsum0 {l : List S35} (h100 : l.length ≤ 100) (R : Int × Int × Int) (hR : okL l = true → Ev (fun k => ratio_Sum.l1 k l 1 l l.length 0) R) :
    ∀ (m i : Nat), m = l.length - i → i ≤ l.length → okL (l.take i) = true → Ev (fun k => ratio_Sum.l0 k l l l.length i) (if okL l = true then R else (0, 0, 1)) := by
  intro m
  induction m with
  | zero =>
    intro i hm hi' ht; rw [List.take_of_length_le (by omega)] at ht; rw [if_pos ht]; refine Ev.step (fun k => ?_) (hR ht); simp only [ratio_Sum.l0]; rw [if_neg (by omega)]
  | succ m ih =>
    intro i hm hi' ht; (have il : i < l.length := by omega); refine Ev.step (f := fun k => (ratio_Valid.f k l[i].f0 l[i].f1).bind fun t556 => (if t556 = true then (ratio_Sum.l0 k l l l.length ((i + 1 : Nat) : Int)) else (some (0, 0, 1)))) (fun k => ?_) (Ev.bind (rvalid_ev l[i].f0 l[i].f1) ?_)
    · simp only [ratio_Sum.l0]
      rw [if_pos (by omega), if_pos (by omega), if_pos (by omega), rd35 l i il, nx i (by omega)]
    by_cases ho : okR l[i].f0 l[i].f1
    · refine Ev.congr (fun k => by rw [if_pos (decide_eq_true ho)]) (ih (i + 1) (by omega) (by omega) ?_)
      unfold okL at ht ⊢; rw [List.take_succ_eq_append_getElem il, List.all_append, ht]; simp [ho]
    · have : okL l = false := by
        unfold okL; rw [List.all_eq_false]; exact ⟨l[i], List.getElem_mem il, by simpa using ho⟩
      rw [this, if_neg (by simp)]; exact Ev.congr (fun k => by rw [if_neg (by simpa using ho)]) (Ev.now _)
theorem rsum_ev (l : List S35) : Ev (fun k => ratio_Sum.f k l) (sumR l) := by
  unfold sumR
  by_cases h : 100 < l.length
  · rw [if_pos h]
    exact Ev.congr (fun k => by unfold ratio_Sum.f; rw [if_pos (by omega)]) (Ev.now _)
  · rw [if_neg h]
    refine Ev.congr (fun k => by unfold ratio_Sum.f; rw [if_neg (by omega)]) ?_; refine rsum0 (by omega) _ (fun hok => ?_) l.length 0 (by omega) (by omega) rfl; refine rsum1 (by omega) hok (fun D => red (totF D false 0 l).1 (totF D false 0 l).2 D) (fun D D0 D1 => ?_) l.length 0 1 (by omega) (by omega) (by omega) (by omega); exact rsum2 (by omega) hok D D0 D1 l.length 0 false 0 (by omega) (by omega) (by omega)
end Go.Proofs.Ytcbohbeipgcfhaa.Mth

/- What Mul and Div tell; what cancels in a product. -/
namespace Go.Proofs.Ytcbohbeipgcfhaa.Mth
open Go.RowKit Go.Proofs.Ytcbohbeipgcfhaa.G Go.Proofs.Ytcbohbeipgcfhaa.Given Go.Proofs.YtcbohbeipgcfhaaW.PrintWords Go.Proofs.YtcbohbeipgcfhaaW.PrintLast Go.Proofs.YtcbohbeipgcfhaaW.PrintMore
set_option linter.unusedVariables false
/-- what Mul and Div tell -/
def mulR (a b c d : Int) : Int × Int × Int :=
  if okR a b ∧ okR c d then red ((decide (a < 0)) != (decide (c < 0))) (a.natAbs * c.natAbs) (b.natAbs * d.natAbs) else (0, 0, 1)
def divR (a b c d : Int) : Int × Int × Int :=
  if okR a b ∧ okR c d then (if c = 0 then (0, 0, 2) else red ((decide (a < 0)) != (decide (c < 0))) (a.natAbs * d.natAbs) (b.natAbs * c.natAbs)) else (0, 0, 1)
/-- with the divisors taken out crosswise nothing more cancels -/
theorem mul_core (s : Bool) (A B C D g h : Nat) (hB : 0 < B) (hD : 0 < D) (hg : g = Nat.gcd A D) (hh : h = Nat.gcd C B) (h1 : Nat.gcd A B = 1) (h2 : Nat.gcd C D = 1) :
    red s (A * C) (B * D) = red s (A / g * (C / h)) (B / h * (D / g)) ∧ Nat.gcd (A / g * (C / h)) (B / h * (D / g)) = 1 := by
  (have g0 : 0 < g := by rw [hg]; exact Nat.gcd_pos_of_pos_right _ hD); (have h0 : 0 < h := by rw [hh]; exact Nat.gcd_pos_of_pos_right _ hB); (have gA : g ∣ A := by rw [hg]; exact Nat.gcd_dvd_left _ _); (have gD : g ∣ D := by rw [hg]; exact Nat.gcd_dvd_right _ _); (have hC : h ∣ C := by rw [hh]; exact Nat.gcd_dvd_left _ _); (have hB' : h ∣ B := by rw [hh]; exact Nat.gcd_dvd_right _ _); constructor
  · have e1 := Nat.mul_div_cancel' gA
    have e2 := Nat.mul_div_cancel' gD; have e3 := Nat.mul_div_cancel' hC; have e4 := Nat.mul_div_cancel' hB'
    have e5 : A * C = g * h * (A / g * (C / h)) := by
      conv => lhs; rw [← e1, ← e3]
      simp only [Nat.mul_comm, Nat.mul_left_comm]
    have e6 : B * D = g * h * (B / h * (D / g)) := by
      conv => lhs; rw [← e4, ← e2]
      simp only [Nat.mul_comm, Nat.mul_left_comm]
    rw [e5, e6, red_scale s _ _ _ (Nat.mul_pos g0 h0)]
  · have c1 : Nat.Coprime (A / g) (D / g) := by rw [hg]; exact Nat.coprime_div_gcd_div_gcd (by rw [← hg]; exact g0)
    (have c2 : Nat.Coprime (C / h) (B / h) := by rw [hh]; exact Nat.coprime_div_gcd_div_gcd (by rw [← hh]; exact h0)); have c3 : Nat.Coprime (A / g) (B / h) := Nat.Coprime.coprime_dvd_left (Nat.div_dvd_of_dvd gA) (Nat.Coprime.coprime_dvd_right (Nat.div_dvd_of_dvd hB') h1); have c4 : Nat.Coprime (C / h) (D / g) := Nat.Coprime.coprime_dvd_left (Nat.div_dvd_of_dvd hC) (Nat.Coprime.coprime_dvd_right (Nat.div_dvd_of_dvd gD) h2); exact Nat.Coprime.mul_left (Nat.Coprime.mul_right c3 c1) (Nat.Coprime.mul_right c2 c4)
end Go.Proofs.Ytcbohbeipgcfhaa.Mth

-- Printed by gp.py (a program of this session's own, over the kit's printer) out of the translation; Lean checks it.
namespace Go.Proofs.Ytcbohbeipgcfhaa.G
open Go.Proofs.Ytcbohbeipgcfhaa.Given Go.Proofs.Ytcbohbeipgcfhaa.Short
open Go.RowKit Go.Proofs.YtcbohbeipgcfhaaW.PrintWords Go.Proofs.YtcbohbeipgcfhaaW.PrintLast Go.Proofs.YtcbohbeipgcfhaaW.PrintMore
attribute [local go_sem] max2_int min2_int max_two min_two max_three min_three max_four min_four   -- for this text's walks alone
set_option linter.unusedVariables false
set_option linter.unusedSimpArgs false

/-! ### ratio_Div: function 29 -/
def ratio_Div.j0 : Nat → Bool → Int → Int → Int → Int → Option (Int × Int × Int)
 | 0, _, _, _, _, _ => none
 | k + 1, x14, x387000, x387001, x388000, x388001 => if x14 = true then (some (0, 0, 1)) else (if x388000 = 0 then (some (0, 0, 2)) else (if x388000 < 0 then ((ratio_Mul.f k x387000 x387001 (wrap64 (-x388001)) (wrap64 (-x388000))).bind fun bt392 => (some (bt392.1, bt392.2.1, bt392.2.2))) else ((ratio_Mul.f k x387000 x387001 x388001 x388000).bind fun bt395 => (some (bt395.1, bt395.2.1, bt395.2.2)))))
def ratio_Div.f (k : Nat) (a0_0 : Int) (a0_1 : Int) (a1_0 : Int) (a1_1 : Int) : Option (Int × Int × Int) := (ratio_Valid.f k a0_0 a0_1).bind fun t389 => (if t389 = true then ((ratio_Valid.f k a1_0 a1_1).bind fun t390 => (ratio_Div.j0 k (!t390) a0_0 a0_1 a1_0 a1_1)) else (ratio_Div.j0 k true a0_0 a0_1 a1_0 a1_1))
theorem ratio_Div.mono_l : ∀ k, (∀ y0 y1 y2 y3 y4, LeO (ratio_Div.j0 k y0 y1 y2 y3 y4) (ratio_Div.j0 (k + 1) y0 y1 y2 y3 y4))
 | 0 => fun _ _ _ _ _ r h => by simp [ratio_Div.j0] at h
 | k + 1 => by
  have ih0 := ratio_Div.mono_l k
  ·intro y0 y1 y2 y3 y4; unfold ratio_Div.j0
   repeat' first
   | (with_reducible exact ih0 _ _ _ _ _)
   | (with_reducible exact ratio_Mul.mono _ _ _ _ _)
   | (with_reducible exact ratio_Valid.mono _ _ _)
   | (with_reducible exact LeO.refl _)
   | (with_reducible exact LeO.none _)
   | (with_reducible refine LeO.ite ?_ ?_)
   | (with_reducible refine LeO.bind ?_ (fun _ => ?_))
   | exact ih0 _ _ _ _ _
   | exact ratio_Mul.mono _ _ _ _ _
   | exact ratio_Valid.mono _ _ _
   | exact LeO.none _
   | refine LeO.ite ?_ ?_
   | refine LeO.bind ?_ (fun _ => ?_)
theorem ratio_Div.mono : ∀ a0 a1 a2 a3 k, LeO (ratio_Div.f k a0 a1 a2 a3) (ratio_Div.f (k + 1) a0 a1 a2 a3) := by
 intro a0 a1 a2 a3 k; have ih0 := ratio_Div.mono_l k; unfold ratio_Div.f
 repeat' first
   | (with_reducible exact ih0 _ _ _ _ _)
   | (with_reducible exact ratio_Mul.mono _ _ _ _ _)
   | (with_reducible exact ratio_Valid.mono _ _ _)
   | (with_reducible exact LeO.refl _)
   | (with_reducible exact LeO.none _)
   | (with_reducible refine LeO.ite ?_ ?_)
   | (with_reducible refine LeO.bind ?_ (fun _ => ?_))
   | exact ih0 _ _ _ _ _
   | exact ratio_Mul.mono _ _ _ _ _
   | exact ratio_Valid.mono _ _ _
   | exact LeO.none _
   | refine LeO.ite ?_ ?_
   | refine LeO.bind ?_ (fun _ => ?_)
set_option maxHeartbeats 8000000 in
set_option maxRecDepth 100000 in
theorem ratio_Div.calls (k : Nat) (a0_0 : Int) (a0_1 : Int) (a1_0 : Int) (a1_1 : Int) (r1 : Int) (r2 : Int) (r3 : Int) (w : World) (h : ratio_Div.f k a0_0 a0_1 a1_0 a1_1 = some (r1, r2, r3)) :
  Calls Try.prog 29 #[.agg #[.int .i64 a0_0, .int .i64 a0_1], .agg #[.int .i64 a1_0, .int .i64 a1_1]] w fun e w' => e = .returned (.tuple #[.agg #[.int .i64 r1, .int .i64 r2], .int .i64 r3]) ∧ Below w.heap.size w w' := by
 have hu35 := Try.underlying35; have HB := Aside0.mk (Below.refl w.heap.size w); have H : ((ratio_Valid.f k a0_0 a0_1).bind fun t389 => (if t389 = true then ((ratio_Valid.f k a1_0 a1_1).bind fun t390 => (ratio_Div.j0 k (!t390) a0_0 a0_1 a1_0 a1_1)) else (ratio_Div.j0 k true a0_0 a0_1 a1_0 a1_1))) = some (r1, r2, r3) := h; clear h; have HC3 := Aside0.mk H; clear H; go_enter Try.func29, Try.ntmps29
 go_upto_region 1 with (first | ((with_reducible refine gate_dst (N := 2) rfl ?_); refine bx (N := 2) (cs := #[.int .i64 a0_0, .int .i64 a0_1]) (t := 35) ?_; intro gb386 hg w4 hbox hb; have BK386 := Aside0.mk (hbox); have GW386 := gs HB hg; have GE386 := gs HB hg; replace HB := wb HB hb; clear hb hbox hg) | ((with_reducible refine gate_dst (N := 3) rfl ?_); refine bx (N := 3) (cs := #[.int .i64 a1_0, .int .i64 a1_1]) (t := 35) ?_; intro gb387 hg w5 hbox hb; have BK387 := Aside0.mk (hbox); have GW387 := gs HB hg; have GE387 := gs HB hg; have NB386_387 := nl BK386 hg; have NB387_386 := nr BK386 hg; replace BK386 := kb BK386 hb; replace HB := wb HB hb; clear hb hbox hg) | ((with_reducible refine gate_dst (N := 4) rfl ?_); refine bx (N := 4) (cs := #[.int .i64 0, .int .i64 0]) (t := 35) ?_; intro gb388 hg w6 hbox hb; have BK388 := Aside0.mk (hbox); have GW388 := gs HB hg; have GE388 := gs HB hg; have NB386_388 := nl BK386 hg; have NB388_386 := nr BK386 hg; have NB387_388 := nl BK387 hg; have NB388_387 := nr BK387 hg; replace BK386 := kb BK386 hb; replace BK387 := kb BK387 hb; replace HB := wb HB hb; clear hb hbox hg))
 (try simp only [Act.put, List.setIfInBounds_toArray, List.set_cons_zero, List.set_cons_succ])
 go_cut [14] (fun v14 wc => ∃ (kq : Nat) (x14_2 : Bool), v14 = .bool x14_2 ∧ Aside0 (ratio_Div.j0 kq x14_2 a0_0 a0_1 a1_0 a1_1 = some (r1, r2, r3)) ∧ Aside0 (kq ≤ k) ∧ Aside0 (wc.heap[gb386]? = some (.cells #[.int .i64 a0_0, .int .i64 a0_1] 35 (0, 0))) ∧ Aside0 (wc.heap[gb387]? = some (.cells #[.int .i64 a1_0, .int .i64 a1_1] 35 (0, 0))) ∧ Aside0 (wc.heap[gb388]? = some (.cells #[.int .i64 0, .int .i64 0] 35 (0, 0))) ∧ Aside0 (Below w.heap.size w wc))
 case first =>
  have H := HC3.out; clear HC3; replace H := Option.bind_eq_some_iff.mp H; obtain ⟨t389, A70, H⟩ := H; (try dsimp only at H); have A7 := Aside0.mk A70; clear A70
  by_cases c8 : t389 = true
  ·subst c8; (have H1 : ((ratio_Valid.f k a1_0 a1_1).bind fun t390 => (ratio_Div.j0 k (!t390) a0_0 a0_1 a1_0 a1_1)) = some (r1, r2, r3) := by rw [if_pos rfl] at H; exact H); clear H; have H := H1; clear H1; replace H := Option.bind_eq_some_iff.mp H; obtain ⟨t390, A90, H⟩ := H; (try dsimp only at H); have A9 := Aside0.mk A90; clear A90; have H' := Aside0.mk H; clear H; obtain ⟨hnb10, hnc10⟩ := n2 NB386_387; obtain ⟨hnb11, hnc11⟩ := n2 NB386_388; have hcz12_0 : w6.cell? ⟨gb386, 0, none⟩ = some (.int .i64 a0_0) := bc BK386 0; have hcz12_1 : w6.cell? ⟨gb386, 1, none⟩ = some (.int .i64 a0_1) := bc BK386 1; have hfz12_0 := blk_frozen BK386.out 0; have hfz12_1 := blk_frozen BK386.out 1; go_wp2_with (first | ((with_reducible refine gate_callee (f := 24) rfl ?_); refine gl (some 8) Try.func24 #[.agg #[.int .i64 a0_0, .int .i64 a0_1]] ?_; (with_reducible refine (ratio_Valid.calls k a0_0 a0_1 true _ A7.out).mono ?_); rintro e w13 ⟨rfl, hb⟩; refine ⟨_, rfl, ?_⟩; replace BK386 := kb BK386 hb; replace BK387 := kb BK387 hb; replace BK388 := kb BK388 hb; replace HB := wb HB hb; (try clear hb); (try clear hb2); (try clear hk); (try clear hi); obtain ⟨hnb14, hnc14⟩ := n2 NB387_388; have hcz15_0 : w13.cell? ⟨gb387, 0, none⟩ = some (.int .i64 a1_0) := bc BK387 0; have hcz15_1 : w13.cell? ⟨gb387, 1, none⟩ = some (.int .i64 a1_1) := bc BK387 1; have hfz15_0 := blk_frozen BK387.out 0; have hfz15_1 := blk_frozen BK387.out 1) | (go_at_call 24; (with_reducible refine (ratio_Valid.calls k a1_0 a1_1 t390 _ A9.out).mono ?_); rintro e w16 ⟨rfl, hb⟩; replace BK386 := kb BK386 hb; replace BK387 := kb BK387 hb; replace BK388 := kb BK388 hb; replace HB := wb HB hb; (try clear hb); (try clear hb2); (try clear hk); (try clear hi)))
   go_meet
   case rel => exact ⟨_, (!t390), (by first | rfl | (simp; done) | (simp [*]; done)), H', ⟨by first | omega | exact Nat.le_refl _⟩, ⟨bq BK386⟩, ⟨bq BK387⟩, ⟨bq BK388⟩, ⟨bw HB⟩⟩
  ·replace c8 := Bool.eq_false_iff.mpr c8; subst c8; (have H1 : (ratio_Div.j0 k true a0_0 a0_1 a1_0 a1_1) = some (r1, r2, r3) := by rw [if_neg (show ¬ (false = true) by decide)] at H; exact H); clear H; have H := H1; clear H1; have H' := Aside0.mk H; clear H; obtain ⟨hnb17, hnc17⟩ := n2 NB386_387; obtain ⟨hnb18, hnc18⟩ := n2 NB386_388; have hcz19_0 : w6.cell? ⟨gb386, 0, none⟩ = some (.int .i64 a0_0) := bc BK386 0; have hcz19_1 : w6.cell? ⟨gb386, 1, none⟩ = some (.int .i64 a0_1) := bc BK386 1; have hfz19_0 := blk_frozen BK386.out 0; have hfz19_1 := blk_frozen BK386.out 1; go_wp2_with (first | ((with_reducible refine gate_callee (f := 24) rfl ?_); refine gl (some 8) Try.func24 #[.agg #[.int .i64 a0_0, .int .i64 a0_1]] ?_; (with_reducible refine (ratio_Valid.calls k a0_0 a0_1 false _ A7.out).mono ?_); rintro e w20 ⟨rfl, hb⟩; refine ⟨_, rfl, ?_⟩; replace BK386 := kb BK386 hb; replace BK387 := kb BK387 hb; replace BK388 := kb BK388 hb; replace HB := wb HB hb; (try clear hb); (try clear hb2); (try clear hk); (try clear hi)))
   go_meet
   case rel => exact ⟨_, (true), (by first | rfl | (simp; done) | (simp [*]; done)), H', ⟨by first | omega | exact Nat.le_refl _⟩, ⟨bq BK386⟩, ⟨bq BK387⟩, ⟨bq BK388⟩, ⟨bw HB⟩⟩
 case rest =>
  clear HC3; (try clear c1); (try clear c2); (try clear p2); (try clear c8); (try clear c10); (try clear c11); (try clear c14); (try clear c17); (try clear c18); (try clear hcz12_0); (try clear hcz12_1); (try clear hcz15_0); (try clear hcz15_1); (try clear hcz19_0); (try clear hcz19_1); (try clear hfz12_0); (try clear hfz12_1); (try clear hfz15_0); (try clear hfz15_1); (try clear hfz19_0); (try clear hfz19_1); obtain ⟨kq, x14_2, rfl, HA, HJ2, BK386, BK387, BK388, HB⟩ := hcut
  cases kq with
  | zero => exact absurd HA.out (by simp [ratio_Div.j0])
  | succ kj2 =>
   have H := HA.out; clear HA; simp only [ratio_Div.j0] at H
   by_cases c21 : x14_2 = true
   ·subst c21; (have H1 : (some (0, 0, 1)) = some (r1, r2, r3) := by rw [if_pos rfl] at H; exact H); clear H; have H := H1; clear H1; simp only [Option.some.injEq, Prod.mk.injEq] at H; obtain ⟨rfl, rfl, rfl⟩ := H; obtain ⟨hnb22, hnc22⟩ := n2 NB388_386; obtain ⟨hnb23, hnc23⟩ := n2 NB388_387; have hcz24_0 : wc.cell? ⟨gb388, 0, none⟩ = some (.int .i64 0) := bc BK388 0; have hcz24_1 : wc.cell? ⟨gb388, 1, none⟩ = some (.int .i64 0) := bc BK388 1; have hfz24_0 := blk_frozen BK388.out 0; have hfz24_1 := blk_frozen BK388.out 1; (go_wp2); refine bodyPost_ret (results_ct rfl _ _ gb388 35 #[.int .i64 0, .int .i64 0] (0, 0) _ rfl (by refine pe ?_; refine blk_put (cs := #[.int .i64 0, .int .i64 0]) ?_ 1 _ rfl; refine pe ?_; refine blk_put (cs := #[.int .i64 0, .int .i64 0]) ?_ 0 _ rfl; refine pe ?_; exact BK388.out) Try.underlying35 rfl (by kernel_rfl)) rfl ?_; exact ⟨by first | rfl | (simp [errW_none, errW_some] <;> rfl) | (simp [*, errW_none, errW_some] <;> rfl), bw HB⟩
   ·replace c21 := Bool.eq_false_iff.mpr c21; subst c21; (have H1 : (if a1_0 = 0 then (some (0, 0, 2)) else (if a1_0 < 0 then ((ratio_Mul.f kj2 a0_0 a0_1 (wrap64 (-a1_1)) (wrap64 (-a1_0))).bind fun bt392 => (some (bt392.1, bt392.2.1, bt392.2.2))) else ((ratio_Mul.f kj2 a0_0 a0_1 a1_1 a1_0).bind fun bt395 => (some (bt395.1, bt395.2.1, bt395.2.2))))) = some (r1, r2, r3) := by rw [if_neg (show ¬ (false = true) by decide)] at H; exact H); clear H; have H := H1; clear H1
    by_cases c25 : a1_0 = 0
    ·rw [if_pos c25] at H; have c25b0 : (a1_0 == 0) = true := beq_iff_eq.mpr c25; have c25b1 : (a1_0 != 0) = false := bne_eq_false_iff_eq.mpr c25; clear c25; simp only [Option.some.injEq, Prod.mk.injEq] at H; obtain ⟨rfl, rfl, rfl⟩ := H; obtain ⟨hnb26, hnc26⟩ := n2 NB387_386; obtain ⟨hnb27, hnc27⟩ := n2 NB387_388; have hcz28_0 : wc.cell? ⟨gb387, 0, none⟩ = some (.int .i64 a1_0) := bc BK387 0; have hcz28_1 : wc.cell? ⟨gb387, 1, none⟩ = some (.int .i64 a1_1) := bc BK387 1; have hfz28_0 := blk_frozen BK387.out 0; have hfz28_1 := blk_frozen BK387.out 1; obtain ⟨hnb29, hnc29⟩ := n2 NB388_386; have hcz30_0 : wc.cell? ⟨gb388, 0, none⟩ = some (.int .i64 0) := bc BK388 0; have hcz30_1 : wc.cell? ⟨gb388, 1, none⟩ = some (.int .i64 0) := bc BK388 1; have hfz30_0 := blk_frozen BK388.out 0; have hfz30_1 := blk_frozen BK388.out 1; (go_wp2); refine bodyPost_ret (results_ct rfl _ _ gb388 35 #[.int .i64 0, .int .i64 0] (0, 0) _ rfl (by refine pe ?_; refine blk_put (cs := #[.int .i64 0, .int .i64 0]) ?_ 1 _ rfl; refine pe ?_; refine blk_put (cs := #[.int .i64 0, .int .i64 0]) ?_ 0 _ rfl; refine pe ?_; exact BK388.out) Try.underlying35 rfl (by kernel_rfl)) rfl ?_; exact ⟨by first | rfl | (simp [errW_none, errW_some] <;> rfl) | (simp [*, errW_none, errW_some] <;> rfl), bw HB⟩
    ·rw [if_neg c25] at H; have c25b0 : (a1_0 == 0) = false := beq_eq_false_iff_ne.mpr c25; have c25b1 : (a1_0 != 0) = true := bne_iff_ne.mpr c25
     by_cases c31 : a1_0 < 0
     ·rw [if_pos c31] at H; have c31b0 : decide (a1_0 < 0) = true := decide_eq_true c31; clear c31; replace H := Option.bind_eq_some_iff.mp H; obtain ⟨⟨t392, t393, t394⟩, A320, H⟩ := H; (try dsimp only at H); have A32 := Aside0.mk A320; clear A320; simp only [Option.some.injEq, Prod.mk.injEq] at H; obtain ⟨rfl, rfl, rfl⟩ := H; obtain ⟨hnb33, hnc33⟩ := n2 NB387_386; obtain ⟨hnb34, hnc34⟩ := n2 NB387_388; have hcz35_0 : wc.cell? ⟨gb387, 0, none⟩ = some (.int .i64 a1_0) := bc BK387 0; have hcz35_1 : wc.cell? ⟨gb387, 1, none⟩ = some (.int .i64 a1_1) := bc BK387 1; have hfz35_0 := blk_frozen BK387.out 0; have hfz35_1 := blk_frozen BK387.out 1; (go_wp2_with (first | ((with_reducible refine gate_dst (N := 6) rfl ?_); refine bx (N := 6) (cs := #[.int .i64 0, .int .i64 0]) (t := 35) ?_; intro gb391 hg w36 hbox hb; have BK391 := Aside0.mk (hbox); have GW391 := gs HB hg; have GE391 := gs HB hg; have NB386_391 := nl BK386 hg; have NB391_386 := nr BK386 hg; have NB387_391 := nl BK387 hg; have NB391_387 := nr BK387 hg; have NB388_391 := nl BK388 hg; have NB391_388 := nr BK388 hg; replace BK386 := kb BK386 hb; replace BK387 := kb BK387 hb; replace BK388 := kb BK388 hb; replace HB := wb HB hb; clear hb hbox hg; obtain ⟨hnb37, hnc37⟩ := n2 NB391_386; obtain ⟨hnb38, hnc38⟩ := n2 NB391_387; obtain ⟨hnb39, hnc39⟩ := n2 NB391_388; have hcz40_0 : w36.cell? ⟨gb391, 0, none⟩ = some (.int .i64 0) := bc BK391 0; have hcz40_1 : w36.cell? ⟨gb391, 1, none⟩ = some (.int .i64 0) := bc BK391 1; have hfz40_0 := blk_frozen BK391.out 0; have hfz40_1 := blk_frozen BK391.out 1; have hcz41_0 : w36.cell? ⟨gb387, 0, none⟩ = some (.int .i64 a1_0) := bc BK387 0; have hcz41_1 : w36.cell? ⟨gb387, 1, none⟩ = some (.int .i64 a1_1) := bc BK387 1; have hfz41_0 := blk_frozen BK387.out 0; have hfz41_1 := blk_frozen BK387.out 1; obtain ⟨hnb42, hnc42⟩ := n2 NB386_388; have hcz43_0 : w36.cell? ⟨gb386, 0, none⟩ = some (.int .i64 a0_0) := bc BK386 0; have hcz43_1 : w36.cell? ⟨gb386, 1, none⟩ = some (.int .i64 a0_1) := bc BK386 1; have hfz43_0 := blk_frozen BK386.out 0; have hfz43_1 := blk_frozen BK386.out 1; have BKz : Aside0 (((w36.setCell ⟨gb391, 0, none⟩ (.int .i64 a1_1)).setCell ⟨gb391, 1, none⟩ (.int .i64 a1_0)).heap[gb391]? = some (.cells #[.int .i64 a1_1, .int .i64 a1_0] 35 (0, 0))) := ⟨by refine pe ?_; refine blk_put (cs := #[.int .i64 a1_1, .int .i64 0]) ?_ 1 _ rfl; refine pe ?_; refine blk_put (cs := #[.int .i64 0, .int .i64 0]) ?_ 0 _ rfl; refine pe ?_; exact BK391.out⟩; have hczz : ((w36.setCell ⟨gb391, 0, none⟩ (.int .i64 a1_1)).setCell ⟨gb391, 1, none⟩ (.int .i64 a1_0)).cell? ⟨gb391, 1, none⟩ = some (.int .i64 a1_0) := bc BKz 1) | ((with_reducible refine gate_callee (f := 27) rfl ?_); refine gl (some 37) Try.func27 #[.agg #[.int .i64 a0_0, .int .i64 a0_1], .agg #[.int .i64 (wrap64 (-a1_1)), .int .i64 (wrap64 (-a1_0))]] ?_; (with_reducible refine (ratio_Mul.calls kj2 a0_0 a0_1 (wrap64 (-a1_1)) (wrap64 (-a1_0)) t392 t393 t394 _ A32.out).mono ?_); rintro e w44 ⟨rfl, hb⟩; refine ⟨_, rfl, ?_⟩; replace BK386 := kb BK386 hb; replace BK387 := kb BK387 hb; replace BK388 := kb BK388 hb; replace BK391 := Aside0.mk (blk_below (g := gb391) (o := .cells #[.int .i64 (wrap64 (-a1_1)), .int .i64 (wrap64 (-a1_0))] 35 (0, 0)) (by refine pe ?_; refine blk_put (cs := #[.int .i64 (wrap64 (-a1_1)), .int .i64 a1_0]) ?_ 1 _ rfl; refine pe ?_; refine blk_put (cs := #[.int .i64 a1_1, .int .i64 a1_0]) ?_ 0 _ rfl; refine pe ?_; refine blk_put (cs := #[.int .i64 a1_1, .int .i64 0]) ?_ 1 _ rfl; refine pe ?_; refine blk_put (cs := #[.int .i64 0, .int .i64 0]) ?_ 0 _ rfl; refine pe ?_; exact BK391.out) hb); replace HB := wb HB hb; (try clear hb); (try clear hb2); (try clear hk); (try clear hi); have hcz45_0 : w44.cell? ⟨gb388, 0, none⟩ = some (.int .i64 0) := bc BK388 0; have hcz45_1 : w44.cell? ⟨gb388, 1, none⟩ = some (.int .i64 0) := bc BK388 1; have hfz45_0 := blk_frozen BK388.out 0; have hfz45_1 := blk_frozen BK388.out 1))); refine bodyPost_ret (results_ct rfl _ _ gb388 35 #[.int .i64 t392, .int .i64 t393] (0, 0) _ rfl (by refine pe ?_; refine blk_put (cs := #[.int .i64 t392, .int .i64 0]) ?_ 1 _ rfl; refine pe ?_; refine blk_put (cs := #[.int .i64 0, .int .i64 0]) ?_ 0 _ rfl; refine pe ?_; exact BK388.out) Try.underlying35 rfl (by kernel_rfl)) rfl ?_; exact ⟨by first | rfl | (simp [errW_none, errW_some] <;> rfl) | (simp [*, errW_none, errW_some] <;> rfl), bw HB⟩
     ·rw [if_neg c31] at H; have c31b0 : decide (a1_0 < 0) = false := decide_eq_false c31; clear c31; replace H := Option.bind_eq_some_iff.mp H; obtain ⟨⟨t395, t396, t397⟩, A460, H⟩ := H; (try dsimp only at H); have A46 := Aside0.mk A460; clear A460; simp only [Option.some.injEq, Prod.mk.injEq] at H; obtain ⟨rfl, rfl, rfl⟩ := H; obtain ⟨hnb47, hnc47⟩ := n2 NB387_386; obtain ⟨hnb48, hnc48⟩ := n2 NB387_388; have hcz49_0 : wc.cell? ⟨gb387, 0, none⟩ = some (.int .i64 a1_0) := bc BK387 0; have hcz49_1 : wc.cell? ⟨gb387, 1, none⟩ = some (.int .i64 a1_1) := bc BK387 1; have hfz49_0 := blk_frozen BK387.out 0; have hfz49_1 := blk_frozen BK387.out 1; (go_wp2_with (first | ((with_reducible refine gate_dst (N := 6) rfl ?_); refine bx (N := 6) (cs := #[.int .i64 0, .int .i64 0]) (t := 35) ?_; intro gb391 hg w50 hbox hb; have BK391 := Aside0.mk (hbox); have GW391 := gs HB hg; have GE391 := gs HB hg; have NB386_391 := nl BK386 hg; have NB391_386 := nr BK386 hg; have NB387_391 := nl BK387 hg; have NB391_387 := nr BK387 hg; have NB388_391 := nl BK388 hg; have NB391_388 := nr BK388 hg; replace BK386 := kb BK386 hb; replace BK387 := kb BK387 hb; replace BK388 := kb BK388 hb; replace HB := wb HB hb; clear hb hbox hg; obtain ⟨hnb51, hnc51⟩ := n2 NB391_386; obtain ⟨hnb52, hnc52⟩ := n2 NB391_387; obtain ⟨hnb53, hnc53⟩ := n2 NB391_388; have hcz54_0 : w50.cell? ⟨gb391, 0, none⟩ = some (.int .i64 0) := bc BK391 0; have hcz54_1 : w50.cell? ⟨gb391, 1, none⟩ = some (.int .i64 0) := bc BK391 1; have hfz54_0 := blk_frozen BK391.out 0; have hfz54_1 := blk_frozen BK391.out 1; have hcz55_0 : w50.cell? ⟨gb387, 0, none⟩ = some (.int .i64 a1_0) := bc BK387 0; have hcz55_1 : w50.cell? ⟨gb387, 1, none⟩ = some (.int .i64 a1_1) := bc BK387 1; have hfz55_0 := blk_frozen BK387.out 0; have hfz55_1 := blk_frozen BK387.out 1; obtain ⟨hnb56, hnc56⟩ := n2 NB386_388; have hcz57_0 : w50.cell? ⟨gb386, 0, none⟩ = some (.int .i64 a0_0) := bc BK386 0; have hcz57_1 : w50.cell? ⟨gb386, 1, none⟩ = some (.int .i64 a0_1) := bc BK386 1; have hfz57_0 := blk_frozen BK386.out 0; have hfz57_1 := blk_frozen BK386.out 1) | ((with_reducible refine gate_callee (f := 27) rfl ?_); refine gl (some 37) Try.func27 #[.agg #[.int .i64 a0_0, .int .i64 a0_1], .agg #[.int .i64 a1_1, .int .i64 a1_0]] ?_; (with_reducible refine (ratio_Mul.calls kj2 a0_0 a0_1 a1_1 a1_0 t395 t396 t397 _ A46.out).mono ?_); rintro e w58 ⟨rfl, hb⟩; refine ⟨_, rfl, ?_⟩; replace BK386 := kb BK386 hb; replace BK387 := kb BK387 hb; replace BK388 := kb BK388 hb; replace BK391 := Aside0.mk (blk_below (g := gb391) (o := .cells #[.int .i64 a1_1, .int .i64 a1_0] 35 (0, 0)) (by refine pe ?_; refine blk_put (cs := #[.int .i64 a1_1, .int .i64 0]) ?_ 1 _ rfl; refine pe ?_; refine blk_put (cs := #[.int .i64 0, .int .i64 0]) ?_ 0 _ rfl; refine pe ?_; exact BK391.out) hb); replace HB := wb HB hb; (try clear hb); (try clear hb2); (try clear hk); (try clear hi); have hcz59_0 : w58.cell? ⟨gb388, 0, none⟩ = some (.int .i64 0) := bc BK388 0; have hcz59_1 : w58.cell? ⟨gb388, 1, none⟩ = some (.int .i64 0) := bc BK388 1; have hfz59_0 := blk_frozen BK388.out 0; have hfz59_1 := blk_frozen BK388.out 1))); refine bodyPost_ret (results_ct rfl _ _ gb388 35 #[.int .i64 t395, .int .i64 t396] (0, 0) _ rfl (by refine pe ?_; refine blk_put (cs := #[.int .i64 t395, .int .i64 0]) ?_ 1 _ rfl; refine pe ?_; refine blk_put (cs := #[.int .i64 0, .int .i64 0]) ?_ 0 _ rfl; refine pe ?_; exact BK388.out) Try.underlying35 rfl (by kernel_rfl)) rfl ?_; exact ⟨by first | rfl | (simp [errW_none, errW_some] <;> rfl) | (simp [*, errW_none, errW_some] <;> rfl), bw HB⟩

end Go.Proofs.Ytcbohbeipgcfhaa.G

/- Mul and Div of the program come to the same plain functions as the reference's, for all numbers. -/
namespace Go.Proofs.Ytcbohbeipgcfhaa.Mth
open Go.RowKit Go.Proofs.Ytcbohbeipgcfhaa.G Go.Proofs.Ytcbohbeipgcfhaa.Given Go.Proofs.YtcbohbeipgcfhaaW.PrintWords Go.Proofs.YtcbohbeipgcfhaaW.PrintLast Go.Proofs.YtcbohbeipgcfhaaW.PrintMore
set_option linter.unusedVariables false
theorem quo_sign (a : Int) (g : Nat) (hg : 0 < g) (hd : g ∣ a.natAbs) : (Int.tdiv a (g : Int)).natAbs = a.natAbs / g ∧ (Int.tdiv a (g : Int) < 0 ↔ a < 0) := by
  obtain ⟨q, hq⟩ := hd; (have e : a.natAbs / g = q := by rw [hq, Nat.mul_div_cancel_left _ hg]); rw [e]; have hpos : a ≠ 0 → 0 < q := fun h => Nat.pos_of_ne_zero (fun h2 => h (by rw [h2, Nat.mul_zero] at hq; omega))
  by_cases ha : a < 0
  · have ea : a = -((g : Int) * (q : Int)) := by rw [← Int.natCast_mul]; omega
    have := hpos (by omega); rw [ea, Int.neg_tdiv, Int.mul_tdiv_cancel_left _ (by omega)]; refine ⟨by omega, fun _ => by rw [← ea]; exact ha, by omega⟩
  · have ea : a = (g : Int) * (q : Int) := by rw [← Int.natCast_mul]; omega
    rw [ea, Int.mul_tdiv_cancel_left _ (by omega)]; refine ⟨by omega, by omega, fun h => by rw [← ea] at h; exact absurd h ha⟩
theorem rmul_ev (a b c d : Int) : Ev (fun k => ratio_Mul.f k a b c d) (mulR a b c d) := by
  refine Ev.congr (fun k => by unfold ratio_Mul.f; rfl) ?_; refine Ev.bind (rvalid_ev a b) ?_
  by_cases h1 : okR a b
  · refine Ev.congr (fun k => by rw [if_pos (decide_eq_true h1)]) ?_
    refine Ev.bind (rvalid_ev c d) ?_
    by_cases h2 : okR c d
    · obtain ⟨ia, ib, b1, la, lb⟩ := ok_small h1
      obtain ⟨ic, id, d1, lc, ld⟩ := ok_small h2; (have eR : mulR a b c d = red ((decide (a < 0)) != (decide (c < 0))) (a.natAbs * c.natAbs) (b.natAbs * d.natAbs) := by unfold mulR; rw [if_pos ⟨h1, h2⟩]); rw [eR]; clear eR; have wb := wrap_abs b1 lb; have wd := wrap_abs d1 ld; obtain ⟨g, hg⟩ : ∃ g, g = Nat.gcd a.natAbs d.natAbs := ⟨_, rfl⟩; obtain ⟨h, hh⟩ : ∃ h, h = Nat.gcd c.natAbs b.natAbs := ⟨_, rfl⟩; obtain ⟨core, cop⟩ := mul_core ((decide (a < 0)) != (decide (c < 0))) a.natAbs b.natAbs c.natAbs d.natAbs g h (by omega) (by omega) hg hh h1.2 h2.2; rw [core]; clear core; (have g0 : 0 < g := by rw [hg]; exact Nat.gcd_pos_of_pos_right _ (by omega)); (have h0 : 0 < h := by rw [hh]; exact Nat.gcd_pos_of_pos_right _ (by omega)); (have gz : ¬ ((g : Nat) : Int) = 0 := by clear hg hh cop; omega); (have hz : ¬ ((h : Nat) : Int) = 0 := by clear hg hh cop; omega); (have gA : g ∣ a.natAbs := by rw [hg]; exact Nat.gcd_dvd_left _ _); (have gD : g ∣ d.natAbs := by rw [hg]; exact Nat.gcd_dvd_right _ _); (have hB : h ∣ b.natAbs := by rw [hh]; exact Nat.gcd_dvd_right _ _); have gle := Nat.le_of_dvd (by omega) gD; have hle := Nat.le_of_dvd (by omega) hB; have r1 := gcd_ev d.natAbs a.natAbs; have r2 := gcd_ev b.natAbs c.natAbs; rw [← hg] at r1; rw [← hh] at r2; clear hg hh; obtain ⟨qs, qn⟩ := quo_sign a g g0 gA; (have iq : I64 (Int.tdiv a (g : Int)) := by have := Nat.div_le_self a.natAbs g; unfold I64; omega); (have w1 : wrap64 (g : Int) = (g : Int) := by unfold wrap64; omega); have w2 : wrap64 (Int.tdiv a (g : Int)) = Int.tdiv a (g : Int) := by unfold I64 at iq; unfold wrap64; omega
      have w3 : IntKind.u64.wrap (Int.tdiv (c.natAbs : Int) (h : Int)) = ((c.natAbs / h : Nat) : Int) := by
        have := Nat.div_le_self c.natAbs h; rw [show Int.tdiv (c.natAbs : Int) (h : Int) = ((c.natAbs / h : Nat) : Int) from rfl, wrapN _ (by omega)]
      have w4 : IntKind.u64.wrap (Int.tdiv (b.natAbs : Int) (h : Int)) = ((b.natAbs / h : Nat) : Int) := by
        have := Nat.div_le_self b.natAbs h; rw [show Int.tdiv (b.natAbs : Int) (h : Int) = ((b.natAbs / h : Nat) : Int) from rfl, wrapN _ (by omega)]
      have w5 : IntKind.u64.wrap (Int.tdiv (d.natAbs : Int) (g : Int)) = ((d.natAbs / g : Nat) : Int) := by
        have := Nat.div_le_self d.natAbs g; rw [show Int.tdiv (d.natAbs : Int) (g : Int) = ((d.natAbs / g : Nat) : Int) from rfl, wrapN _ (by omega)]
      have l1 : c.natAbs / h ≤ 1152921504606846976 := Nat.le_trans (Nat.div_le_self _ _) lc; have l2 : b.natAbs / h ≤ 1152921504606846976 := Nat.le_trans (Nat.div_le_self _ _) lb; have l3 : d.natAbs / g ≤ 1152921504606846976 := Nat.le_trans (Nat.div_le_self _ _) ld; have l4 : a.natAbs / g ≤ 1152921504606846976 := Nat.le_trans (Nat.div_le_self _ _) la; have p2 : 0 < b.natAbs / h := Nat.div_pos hle h0; have p3 : 0 < d.natAbs / g := Nat.div_pos gle g0; have t1 := times_eq iq (c.natAbs / h) (by omega); rw [qs] at t1; have t2 := mul64_eq (b.natAbs / h) (d.natAbs / g) (by omega) (by omega); have m1 : a.natAbs / g * (c.natAbs / h) ≤ 1329227995784915872903807060280344576 := Nat.le_trans (Nat.mul_le_mul l4 l1) (by decide); have p4 : 0 < b.natAbs / h * (d.natAbs / g) := Nat.mul_pos p2 p3; (have sg : decide (Int.tdiv a (g : Int) < 0) = decide (a < 0) := by rw [decide_eq_decide]; exact qn); rw [sg] at t1; obtain ⟨N, hN⟩ : ∃ N, a.natAbs / g * (c.natAbs / h) = N := ⟨_, rfl⟩; obtain ⟨D, hD⟩ : ∃ D, b.natAbs / h * (d.natAbs / g) = D := ⟨_, rfl⟩; rw [hN] at t1 m1 cop ⊢; rw [hD] at t2 p4 cop ⊢; refine Ev.step (f := fun k => (ratio_gcd.f k (a.natAbs : Int) (d.natAbs : Int)).bind fun t354 => (ratio_gcd.f k (c.natAbs : Int) (b.natAbs : Int)).bind fun t356 => if (wrap64 (t354)) = 0 then (none) else ((ratio_abs.f c).bind fun t357 => (if t356 = 0 then (none) else ((ratio_times.f (wrap64 (Int.tdiv a (wrap64 (t354)))) (IntKind.u64.wrap (Int.tdiv t357 t356))).bind fun bt358 => (if t354 = 0 then (none) else ((bits_Mul64.f (IntKind.u64.wrap (Int.tdiv (b.natAbs : Int) t356)) (IntKind.u64.wrap (Int.tdiv (d.natAbs : Int) t354))).bind fun bt362 => (if bt362.1 = 0 then ((ratio_lowest.f k (bt358.1 != (decide (c < 0))) bt358.2.1 bt358.2.2 bt362.2).bind fun bt364 => (some (bt364.1, bt364.2.1, bt364.2.2))) else (some (0, 0, 6))))))))) (fun k => ?_) ?_
      · simp only [ratio_Mul.j0]
        rw [if_neg (by simpa using h2), wb, wd, abs_eq ia, abs_eq ic, Option.bind_some]; simp only [Option.bind_some]
      refine Ev.bind r1 ?_; refine Ev.bind r2 ?_; refine Ev.congr (fun k => by rw [w1, w2, if_neg gz, abs_eq ic, Option.bind_some, if_neg hz, w3, t1, Option.bind_some, if_neg gz, w4, w5, t2, Option.bind_some]) ?_
      by_cases hs : D < 18446744073709551616
      · rw [hi_small hs, lo_small hs]
        refine Ev.congr (fun k => by rw [if_pos rfl]) ?_; exact Ev.bind (f := fun _ (t : Int × Int × Int) => some (t.1, t.2.1, t.2.2)) (lowest_ev _ N D (by omega) hs p4) (Ev.now _)
      · rw [red_coprime _ _ _ cop (by omega)]
        exact Ev.congr (fun k => by rw [if_neg (show ¬ hi D = 0 by unfold hi; omega)]) (Ev.now _)
    · have e : mulR a b c d = (0, 0, 1) := by unfold mulR; rw [if_neg (fun h => h2 h.2)]
      rw [e]; refine ev_some (fun k => ?_); simp only [ratio_Mul.j0]; rw [if_pos (by simpa using h2)]
  · have e : mulR a b c d = (0, 0, 1) := by unfold mulR; rw [if_neg (fun h => h1 h.1)]
    rw [e]; refine Ev.congr (fun k => by rw [if_neg (by simpa using h1)]) ?_; refine ev_some (fun k => ?_); simp only [ratio_Mul.j0]; rw [if_pos trivial]
theorem rdiv_ev (a b c d : Int) : Ev (fun k => ratio_Div.f k a b c d) (divR a b c d) := by
  refine Ev.congr (fun k => by unfold ratio_Div.f; rfl) ?_; refine Ev.bind (rvalid_ev a b) ?_
  by_cases h1 : okR a b
  · refine Ev.congr (fun k => by rw [if_pos (decide_eq_true h1)]) ?_
    refine Ev.bind (rvalid_ev c d) ?_
    by_cases h2 : okR c d
    · obtain ⟨ia, ib, b1, la, lb⟩ := ok_small h1
      obtain ⟨ic, id, d1, lc, ld⟩ := ok_small h2
      by_cases h3 : c = 0
      · have eR : divR a b c d = (0, 0, 2) := by unfold divR; rw [if_pos ⟨h1, h2⟩, if_pos h3]
        rw [eR]; refine ev_some (fun k => ?_); simp only [ratio_Div.j0]; rw [if_neg (by simpa using h2), if_pos h3]
      · have eR : divR a b c d = red ((decide (a < 0)) != (decide (c < 0))) (a.natAbs * d.natAbs) (b.natAbs * c.natAbs) := by unfold divR; rw [if_pos ⟨h1, h2⟩, if_neg h3]
        rw [eR]; have cop := h2.2
        by_cases h4 : c < 0
        · have o : okR (-d) (-c) := ⟨by obtain ⟨⟨_, _, _, _⟩, _⟩ := h2; omega, by rw [Int.natAbs_neg, Int.natAbs_neg, Nat.gcd_comm]; exact cop⟩
          have e : mulR a b (-d) (-c) = red ((decide (a < 0)) != (decide (c < 0))) (a.natAbs * d.natAbs) (b.natAbs * c.natAbs) := by
            unfold mulR; rw [if_pos ⟨h1, o⟩, Int.natAbs_neg, Int.natAbs_neg, show decide (-d < 0) = decide (c < 0) from by rw [decide_eq_decide]; omega]
          rw [← e]; refine Ev.step (fun k => ?_) (Ev.bind (f := fun _ (t : Int × Int × Int) => some (t.1, t.2.1, t.2.2)) (rmul_ev a b (-d) (-c)) (Ev.now _)); simp only [ratio_Div.j0]; rw [if_neg (by simpa using h2), if_neg h3, if_pos h4, show wrap64 (-d) = -d from by unfold wrap64; omega, show wrap64 (-c) = -c from by unfold wrap64; omega]
        · have o : okR d c := ⟨by obtain ⟨⟨_, _, _, _⟩, _⟩ := h2; omega, by rw [Nat.gcd_comm]; exact cop⟩
          have e : mulR a b d c = red ((decide (a < 0)) != (decide (c < 0))) (a.natAbs * d.natAbs) (b.natAbs * c.natAbs) := by
            unfold mulR; rw [if_pos ⟨h1, o⟩, show decide (d < 0) = decide (c < 0) from by rw [decide_eq_decide]; omega]
          rw [← e]; refine Ev.step (fun k => ?_) (Ev.bind (f := fun _ (t : Int × Int × Int) => some (t.1, t.2.1, t.2.2)) (rmul_ev a b d c) (Ev.now _)); simp only [ratio_Div.j0]; rw [if_neg (by simpa using h2), if_neg h3, if_neg h4]
    · have e : divR a b c d = (0, 0, 1) := by unfold divR; rw [if_neg (fun h => h2 h.2)]
      rw [e]; refine ev_some (fun k => ?_); simp only [ratio_Div.j0]; rw [if_pos (by simpa using h2)]
  · have e : divR a b c d = (0, 0, 1) := by unfold divR; rw [if_neg (fun h => h1 h.1)]
    rw [e]; refine Ev.congr (fun k => by rw [if_neg (by simpa using h1)]) ?_; refine ev_some (fun k => ?_); simp only [ratio_Div.j0]; rw [if_pos trivial]
end Go.Proofs.Ytcbohbeipgcfhaa.Mth

-- Printed by gp.py (a program of this session's own, over the kit's printer) out of the translation; Lean checks it.
namespace Go.Proofs.Ytcbohbeipgcfhaa.G
open Go.Proofs.Ytcbohbeipgcfhaa.Given Go.Proofs.Ytcbohbeipgcfhaa.Short
open Go.RowKit Go.Proofs.YtcbohbeipgcfhaaW.PrintWords Go.Proofs.YtcbohbeipgcfhaaW.PrintLast Go.Proofs.YtcbohbeipgcfhaaW.PrintMore
attribute [local go_sem] max2_int min2_int max_two min_two max_three min_three max_four min_four   -- for this text's walks alone
set_option linter.unusedVariables false
set_option linter.unusedSimpArgs false

/-- A state of type 53 at block g of W; what its slices lead to came in by w0. -/
def IsS53 (w0 W : World) (g : Nat) (f0 : List Int) (f1 : Int) : Prop := ∃ A0 c0, W.heap[g]? = some (.cells #[.slice A0 f0.length c0, .int .i64 f1] 53 (0, 0)) ∧ w0.heap.size ≤ g ∧ Kd.C (Kd.int .i64) w0 A0 f0.length f0
theorem IsS53.grown {w0 W : World} {g : Nat} {f0 : List Int} {f1 : Int} {W1 : World} {row : Option Nat} (h : IsS53 w0 W g f0 f1) (hw : W.grownBy W1 row) (hne : some g ≠ row) : IsS53 w0 W1 g f0 f1 := by
 obtain ⟨A0, c0, hb, hg, hr0⟩ := h; exact ⟨A0, c0, blk_grown hb hw hne, hg, hr0⟩
theorem IsS53.own_neN {w0 W : World} {g : Nat} {f0 : List Int} {f1 : Int} {α : Type} {d : Kd α} {e : Nat} {base : Nat} {ok : Nat → Prop} {v : Value} {xs : List α} (h : IsS53 w0 W g f0 f1) (ho : Kd.N d e W base ok v xs) (ht : e ≠ 53) : some g ≠ v.ownBlock := by
 obtain ⟨A0, c0, hb, hg, hr0⟩ := h; exact Kd.N_ne ho hb ht
theorem IsS53.fresh {w0 W : World} {g : Nat} {f0 : List Int} {f1 : Int} (h : IsS53 w0 W g f0 f1) : ∀ k, W.heap.size ≤ k → k ≠ g := by
 obtain ⟨A0, c0, hb, hg, hr0⟩ := h; exact Kd.freshB hb
theorem IsS53.kept {w0 W : World} {g : Nat} {f0 : List Int} {f1 : Int} {W1 : World} {S : Nat → Prop} (h : IsS53 w0 W g f0 f1) (hk : Kept W W1 S) (hne : ¬ S g) : IsS53 w0 W1 g f0 f1 := by
 obtain ⟨A0, c0, hb, hg, hr0⟩ := h; exact ⟨A0, c0, blk_kept hb hk hne, hg, hr0⟩
theorem IsS53.below {w0 W : World} {g : Nat} {f0 : List Int} {f1 : Int} {W1 : World} (h : IsS53 w0 W g f0 f1) (hw : Below W.heap.size W W1) : IsS53 w0 W1 g f0 f1 := h.grown (grown_of_below hw none) (by simp)
theorem IsS53.alloc {w0 W : World} {g : Nat} {f0 : List Int} {f1 : Int} (h : IsS53 w0 W g f0 f1) (o : Obj) : IsS53 w0 (W.alloc o) g f0 f1 := h.below (below_alloc (Below.refl _ _) o)
theorem IsS53.drewN {w0 W : World} {g : Nat} {f0 : List Int} {f1 : Int} (h : IsS53 w0 W g f0 f1) (m : Nat) : IsS53 w0 (W.drewN m) g f0 f1 := h
theorem IsS53.drew {w0 W : World} {g : Nat} {f0 : List Int} {f1 : Int} (h : IsS53 w0 W g f0 f1) : IsS53 w0 W.drew g f0 f1 := h
theorem IsS53.at_ {w0 W : World} {g : Nat} {f0 : List Int} {f1 : Int} {w' : World} {m : Nat} (hq : W.drewN m = w') (h : IsS53 w0 W g f0 f1) : IsS53 w0 w' g f0 f1 := by subst hq; exact IsS53.drewN h m
theorem IsS53.apart {w0 W : World} {g : Nat} {f0 : List Int} {f1 : Int} {α : Type} {d : Kd α} {e : Nat} {base : Nat} {ok : Nat → Prop} {v : Value} {xs : List α} (h : IsS53 w0 W g f0 f1) (ho : d.R e W base ok v xs) (ht : ∀ q, q ∈ e :: d.E → q ≠ 53) : d.R e W base (fun k => ok k ∧ k ≠ g) v xs := by
 obtain ⟨A0, c0, hb, hg, hr0⟩ := h; exact Kd.R_types ho hb ht
theorem IsS53.own_ne {w0 W : World} {g : Nat} {f0 : List Int} {f1 : Int} {α : Type} {d : Kd α} {e : Nat} {base : Nat} {ok : Nat → Prop} {v : Value} {xs : List α} (h : IsS53 w0 W g f0 f1) (ho : d.R e W base ok v xs) (ht : e ≠ 53) : some g ≠ v.ownBlock := by
 obtain ⟨A0, c0, hb, hg, hr0⟩ := h; exact Kd.R_ne ho hb ht
theorem IsS53.apartQ {w0 W : World} {g : Nat} {f0 : List Int} {f1 : Int} {α : Type} {d : Kd α} {e : Nat} {base : Nat} {ok : Nat → Prop} {v : Value} {xs : List α} (h : IsS53 w0 W g f0 f1) (ho : d.Q e W base ok v xs) (ht : ∀ q, q ∈ e :: d.E → q ≠ 53) : d.Q e W base (fun k => ok k ∧ k ≠ g) v xs := by
 obtain ⟨A0, c0, hb, hg, hr0⟩ := h; exact Kd.Q_types ho hb ht
theorem IsS53.own_neQ {w0 W : World} {g : Nat} {f0 : List Int} {f1 : Int} {α : Type} {d : Kd α} {e : Nat} {base : Nat} {ok : Nat → Prop} {v : Value} {xs : List α} (h : IsS53 w0 W g f0 f1) (ho : d.Q e W base ok v xs) (ht : e ≠ 53) : some g ≠ v.ownBlock := by
 obtain ⟨A0, c0, hb, hg, hr0⟩ := h; exact Kd.Q_ne ho hb ht
theorem IsS53.apartS {w0 W : World} {g : Nat} {f0 : List Int} {f1 : Int} {α : Type} {d : Kd α} {e : Nat} {base : Nat} {ok : Nat → Prop} {v : Value} {xs : List α} (h : IsS53 w0 W g f0 f1) (ho : d.S e W base ok v xs) (ht : ∀ q, q ∈ e :: d.E → q ≠ 53) : d.S e W base (fun k => ok k ∧ k ≠ g) v xs := by
 obtain ⟨A0, c0, hb, hg, hr0⟩ := h; exact Kd.S_types ho hb ht
theorem IsS53.own_neS {w0 W : World} {g : Nat} {f0 : List Int} {f1 : Int} {α : Type} {d : Kd α} {e : Nat} {base : Nat} {ok : Nat → Prop} {v : Value} {xs : List α} (h : IsS53 w0 W g f0 f1) (ho : d.S e W base ok v xs) (ht : e ≠ 53) : some g ≠ v.ownBlock := by
 obtain ⟨A0, c0, hb, hg, hr0⟩ := h; exact Kd.S_ne ho hb ht
theorem IsS53.lt {w0 W : World} {g : Nat} {f0 : List Int} {f1 : Int} (h : IsS53 w0 W g f0 f1) : g < W.heap.size := by
 obtain ⟨A0, c0, hb, hg, hr0⟩ := h; exact blk_lt hb
theorem IsS53.ge {w0 W : World} {g : Nat} {f0 : List Int} {f1 : Int} (h : IsS53 w0 W g f0 f1) : w0.heap.size ≤ g := by
 obtain ⟨A0, c0, hb, hg, hr0⟩ := h; exact hg
theorem IsS53.ne_blk {w0 W : World} {g : Nat} {f0 : List Int} {f1 : Int} {a : Nat} {cs : Array Value} {t : TypeId} {fr : Nat × Nat} (h : IsS53 w0 W g f0 f1) (hb2 : W.heap[a]? = some (.cells cs t fr)) (ht : t ≠ 53) : g ≠ a := by
 obtain ⟨A0, c0, hb, hg, hr0⟩ := h; rintro rfl; rw [hb] at hb2; injection hb2 with hb2; injection hb2 with _ ht2; exact ht ht2.symm
theorem IsS53.far {w0 W : World} {g : Nat} {f0 : List Int} {f1 : Int} {p : Addr} (h : IsS53 w0 W g f0 f1) (hne : g ≠ p.block) (u : Value) : IsS53 w0 (W.setCell p u) g f0 f1 := by
 obtain ⟨A0, c0, hb, hg, hr0⟩ := h; exact ⟨A0, c0, blk_far hb hne u, hg, hr0⟩
theorem cellS53_0 {W : World} {g : Nat} {A0 : Option Addr} {c0 : Nat} {f0 : List Int} {f1 : Int} (h : W.heap[g]? = some (.cells #[.slice A0 f0.length c0, .int .i64 f1] 53 (0, 0))) : W.cell? ⟨g, 0, none⟩ = some (.slice A0 f0.length c0) := (blk_cell h 0).trans rfl
theorem cellS53_1 {W : World} {g : Nat} {A0 : Option Addr} {c0 : Nat} {f0 : List Int} {f1 : Int} (h : W.heap[g]? = some (.cells #[.slice A0 f0.length c0, .int .i64 f1] 53 (0, 0))) : W.cell? ⟨g, 1, none⟩ = some (.int .i64 f1) := (blk_cell h 1).trans rfl
theorem IsS53.set_1 {w0 W : World} {g : Nat} {f0 : List Int} {f1 : Int} (h : IsS53 w0 W g f0 f1) (x : Int) : IsS53 w0 (W.setCell ⟨g, 1, none⟩ (.int .i64 x)) g f0 x := by
 obtain ⟨A0, c0, hb, hg, hr0⟩ := h; exact ⟨A0, c0, by simpa using blk_set hb 1 (.int .i64 x), hg, hr0⟩
theorem IsS53.new (w0 W : World) (A0 : Option Addr) (c0 : Nat) (f0 : List Int) (f1 : Int) (hB : Below w0.heap.size w0 W) (hr0 : Kd.C (Kd.int .i64) w0 A0 f0.length f0) : IsS53 w0 (W.alloc (.cells #[.slice A0 f0.length c0, .int .i64 f1] 53)) W.heap.size f0 f1 := ⟨A0, c0, by simpa using heap_alloc_new W _, hB.size, hr0⟩

/-! ### mk_New: function 19 -/
def mk_New.f (l0 : List Int) : Option (List Int × Int) := if (l0.length : Int) > 600 then (if 600 ≤ (l0.length : Int) then (some (l0.take 600, 0)) else (none)) else (some (l0, 0))
set_option maxHeartbeats 8000000 in
set_option maxRecDepth 100000 in
theorem mk_New.calls (A0 : Option Addr) (c0 : Nat) (l0 : List Int) (r1 : List Int) (r2 : Int) (w0 w : World) (hB : Below w0.heap.size w0 w) (hr0 : Kd.C (Kd.int .i64) w0 A0 l0.length l0) (hc0 : l0.length ≤ c0) (h : mk_New.f l0 = some (r1, r2)) :
  Calls Try.prog 19 #[.slice A0 l0.length c0] w fun e w' => ∃ g_ : Nat, e = .returned (.pointer (some ⟨g_, 0, none⟩)) ∧ IsS53 w0 w' g_ r1 r2 ∧ Below w0.heap.size w0 w' ∧ Below w.heap.size w w' := by
 have hu53 := Try.underlying53; have HR0 := Aside0.mk hr0; have HC0 := Aside0.mk hc0; clear hr0 hc0; have HBW := Aside0.mk (Below.refl w.heap.size w); have HW0 := Aside0.mk hB.size; have HB := Aside0.mk hB; clear hB; have H : (if (l0.length : Int) > 600 then (if 600 ≤ (l0.length : Int) then (some (l0.take 600, 0)) else (none)) else (some (l0, 0))) = some (r1, r2) := h; clear h
 by_cases c2 : (l0.length : Int) > 600
 ·rw [if_pos c2] at H; have c2b0 : decide (600 < (l0.length : Int)) = true := decide_eq_true c2; have c2b1 : decide (600 < l0.length) = true := decide_eq_true (by omega); clear c2
  by_cases c3 : 600 ≤ (l0.length : Int)
  ·rw [if_pos c3] at H; have c3b0 := eq_true c3; have c3b1 : decide (600 ≤ (l0.length : Int)) = true := decide_eq_true c3; clear c3; simp only [Option.some.injEq, Prod.mk.injEq] at H; obtain ⟨rfl, rfl⟩ := H; obtain ⟨i04, hi04, _, hsz4, _⟩ := info_parts info3; obtain ⟨hcut4, hA4, hC4⟩ := print_take_of (P := Try.prog) (Value.int .i64) 0 22 3 .i64 Try.underlying22 hi04 hsz4 A0 c0 l0 600 (by omega) (of_decide_eq_true (by first | (with_reducible assumption) | assumption)) HC0.out; have HR167 := Aside0.mk (Kd.C_of_reads (h1 := fun _ => rfl) (hA4 _ (Kd.reads_of_C HR0.out))); have HC167 := Aside0.mk hC4; clear hA4 hC4 hi04 hsz4; (go_enter Try.func19, Try.ntmps19); (go_wp2_with (first | ((with_reducible refine gate_dst (N := 10) rfl ?_); refine bx (N := 10) (cs := #[.slice A0 (l0.take 600).length c0, .int .i64 0]) (t := 53) ?_; intro gb168 hg w5 hbox hb; have BK168 := Aside0.mk (hbox); have GW168 := gs HBW hg; have GE168 := Aside0.mk ((Nat.le_trans HW0.out (by rw [hg]; exact (below_size (bw HBW)) : w.heap.size ≤ gb168) : w0.heap.size ≤ gb168)); replace HBW := Aside0.mk (below_step HBW.out hb); replace HB := wb HB hb; clear hb hbox hg))); (go_ret); exact ⟨_, rfl, (show IsS53 w0 _ gb168 (l0.take 600) 0 from ⟨_, _, by refine pe ?_; exact BK168.out, GE168.out, HR167.out⟩), bw HB, bw HBW⟩
  ·rw [if_neg c3] at H; exact absurd H (by simp)
 ·rw [if_neg c2] at H; have c2b0 : decide (600 < (l0.length : Int)) = false := decide_eq_false c2; have c2b1 : decide (600 < l0.length) = false := decide_eq_false (by omega); clear c2; simp only [Option.some.injEq, Prod.mk.injEq] at H; obtain ⟨rfl, rfl⟩ := H; (go_enter Try.func19, Try.ntmps19); (go_wp2_with (first | ((with_reducible refine gate_dst (N := 10) rfl ?_); refine bx (N := 10) (cs := #[.slice A0 l0.length c0, .int .i64 0]) (t := 53) ?_; intro gb169 hg w6 hbox hb; have BK169 := Aside0.mk (hbox); have GW169 := gs HBW hg; have GE169 := Aside0.mk ((Nat.le_trans HW0.out (by rw [hg]; exact (below_size (bw HBW)) : w.heap.size ≤ gb169) : w0.heap.size ≤ gb169)); replace HBW := Aside0.mk (below_step HBW.out hb); replace HB := wb HB hb; clear hb hbox hg))); (go_ret); exact ⟨_, rfl, (show IsS53 w0 _ gb169 l0 0 from ⟨_, _, by refine pe ?_; exact BK169.out, GE169.out, HR0.out⟩), bw HB, bw HBW⟩

end Go.Proofs.Ytcbohbeipgcfhaa.G

-- Printed by gp.py (a program of this session's own, over the kit's printer) out of the translation; Lean checks it.
namespace Go.Proofs.Ytcbohbeipgcfhaa.G
open Go.Proofs.Ytcbohbeipgcfhaa.Given Go.Proofs.Ytcbohbeipgcfhaa.Short
open Go.RowKit Go.Proofs.YtcbohbeipgcfhaaW.PrintWords Go.Proofs.YtcbohbeipgcfhaaW.PrintLast Go.Proofs.YtcbohbeipgcfhaaW.PrintMore
attribute [local go_sem] max2_int min2_int max_two min_two max_three min_three max_four min_four   -- for this text's walks alone
set_option linter.unusedVariables false
set_option linter.unusedSimpArgs false

/-! ### tp_Raw: function 72 -/
def tp_Raw.f (s0_0 : List Int) (s0_1 : Int) : Option (Int × Int) := if s0_1 ≥ (s0_0.length : Int) then (some (0, s0_1)) else (if 0 ≤ (wrap64 ((wrap64 (s0_1 + 1)) - 1)) then (if (wrap64 ((wrap64 (s0_1 + 1)) - 1)) < (s0_0.length : Int) then (some (rd s0_0 (wrap64 ((wrap64 (s0_1 + 1)) - 1)), wrap64 (s0_1 + 1))) else (none)) else (none))
set_option maxHeartbeats 8000000 in
set_option maxRecDepth 100000 in
theorem tp_Raw.calls (g : Nat) (s0_0 : List Int) (s0_1 : Int) (r1 : Int) (r2 : Int) (w0 w : World) (hI : IsS53 w0 w g s0_0 s0_1) (hB : Below w0.heap.size w0 w) (h : tp_Raw.f s0_0 s0_1 = some (r1, r2)) :
  Calls Try.prog 72 #[.pointer (some ⟨g, 0, none⟩)] w fun e w' => e = .returned (.int .i64 r1) ∧ IsS53 w0 w' g s0_0 r2 ∧ Below w0.heap.size w0 w' ∧ KeepBut w w' g none := by
 have HI0 := Aside0.mk hI; have HK := Aside0.mk (KeepBut.refl w g none); have HL := Aside0.mk hB.size; clear hI; have HW0 := Aside0.mk hB.size; have HB := Aside0.mk hB; clear hB; have H : (if s0_1 ≥ (s0_0.length : Int) then (some (0, s0_1)) else (if 0 ≤ (wrap64 ((wrap64 (s0_1 + 1)) - 1)) then (if (wrap64 ((wrap64 (s0_1 + 1)) - 1)) < (s0_0.length : Int) then (some (rd s0_0 (wrap64 ((wrap64 (s0_1 + 1)) - 1)), wrap64 (s0_1 + 1))) else (none)) else (none))) = some (r1, r2) := h; clear h
 by_cases c2 : s0_1 ≥ (s0_0.length : Int)
 ·rw [if_pos c2] at H; have c2b0 : decide ((s0_0.length : Int) ≤ s0_1) = true := decide_eq_true c2; clear c2; simp only [Option.some.injEq, Prod.mk.injEq] at H; obtain ⟨rfl, rfl⟩ := H; obtain ⟨ASz3_0, cSz3_0, HGz3, hgz3, HSz3_0⟩ := HI0.out; have hcz3_0 := cellS53_0 HGz3; have hcz3_1 := cellS53_1 HGz3; have hfz3_1 := blk_frozen HGz3 1; clear HGz3 hgz3; (go_enter Try.func72, Try.ntmps72); (go_wp2); (repeat (go_quiet (fail); try go_wp2)); (go_ret); exact ⟨by first | rfl | (simp [errW_none, errW_some] <;> rfl) | (simp [*, errW_none, errW_some] <;> rfl), by repeat (first | (with_reducible first | exact HI0.out | apply IsS53.alloc | apply IsS53.drewN | apply IsS53.drew | apply IsS53.set_1) | exact HI0.out), by repeat (first | (with_reducible first | exact HB.out | apply below_alloc | apply pw_below_drewN | apply below_drew1 | refine below_set ?_ (IsS53.ge HI0.out)) | exact HB.out), by repeat (first | (with_reducible first | exact HK.out | apply KeepBut.set_ | apply keep_drewN | apply keep_drew | apply keep_alloc) | exact HK.out)⟩
 ·rw [if_neg c2] at H; have c2b0 : decide ((s0_0.length : Int) ≤ s0_1) = false := decide_eq_false c2; clear c2; obtain ⟨ji4, hji4⟩ : ∃ j_ : Int, (wrap64 ((wrap64 (s0_1 + 1)) - 1)) = j_ := ⟨_, rfl⟩; (replace H : (if 0 ≤ (ji4) then (if (ji4) < (s0_0.length : Int) then (some (rd s0_0 (ji4), wrap64 (s0_1 + 1))) else (none)) else (none)) = some (r1, r2) := by first | (rw [hji4] at H; exact H) | (simp only [hji4] at H ⊢; exact H)); have hji4w : (IntKind.i64.wrap ((wrap64 (s0_1 + 1)) - 1)) = ji4 := (i64_w _).trans hji4
  by_cases c5 : 0 ≤ (ji4)
  ·rw [if_pos c5] at H; have c5b0 : decide (0 ≤ (ji4)) = true := decide_eq_true c5; clear c5
   by_cases c6 : (ji4) < (s0_0.length : Int)
   ·rw [if_pos c6] at H; have c6b0 : decide ((ji4) < (s0_0.length : Int)) = true := decide_eq_true c6; clear c6; simp only [Option.some.injEq, Prod.mk.injEq] at H; obtain ⟨rfl, rfl⟩ := H; obtain ⟨ASz7_0, cSz7_0, HGz7, hgz7, HSz7_0⟩ := HI0.out; have hcz7_0 := cellS53_0 HGz7; have hcz7_1 := cellS53_1 HGz7; have hfz7_1 := blk_frozen HGz7 1; clear HGz7 hgz7; have p170 : 0 ≤ ((ji4) : Int) := of_decide_eq_true (by first | (with_reducible assumption) | assumption); have q170 : (ji4) < (s0_0.length : Int) := of_decide_eq_true (by first | (with_reducible assumption) | assumption); obtain ⟨ad170, e170, hx170_0⟩ := Kd.at_int HSz7_0 (ji4) p170 q170
    cases e170
    have hn170_0 : ad170.block ≠ g := Nat.ne_of_lt (Nat.lt_of_lt_of_le (by have := World.block_lt_of_cell? _ _ hx170_0; first | rwa [add_block] at this | exact this) (IsS53.ge HI0.out)); replace hx170_0 := pw_cell_below HB.out hx170_0; replace hx170_0 := (cell_far (p := ⟨g, 1, none⟩) (by first | (rw [add_block]; exact hn170_0) | (show (Addr.add _ _).block ≠ _; rw [add_block]; exact hn170_0) | exact hn170_0) (.int .i64 (wrap64 (s0_1 + 1)))).trans hx170_0; (try have hy170_0 := fun (n_ : Nat) => (show (((w.drewN n_).setCell ⟨g, 1, none⟩ (.int .i64 (wrap64 (s0_1 + 1))))).cell? _ = some _ from hx170_0)); clear hn170_0; replace p170 := eq_true p170; replace q170 := eq_true q170; (go_enter Try.func72, Try.ntmps72); (go_wp2); (repeat (go_quiet (fail); try go_wp2)); (go_ret); exact ⟨by first | rfl | (simp [errW_none, errW_some] <;> rfl) | (simp only [← hji4]; first | rfl | (simp [errW_none, errW_some] <;> rfl)) | (simp [*, errW_none, errW_some] <;> rfl), by repeat (first | (with_reducible first | exact HI0.out | apply IsS53.alloc | apply IsS53.drewN | apply IsS53.drew | apply IsS53.set_1) | exact HI0.out), by repeat (first | (with_reducible first | exact HB.out | apply below_alloc | apply pw_below_drewN | apply below_drew1 | refine below_set ?_ (IsS53.ge HI0.out)) | exact HB.out), by repeat (first | (with_reducible first | exact HK.out | apply KeepBut.set_ | apply keep_drewN | apply keep_drew | apply keep_alloc) | exact HK.out)⟩
   ·rw [if_neg c6] at H; exact absurd H (by simp)
  ·rw [if_neg c5] at H; exact absurd H (by simp)

end Go.Proofs.Ytcbohbeipgcfhaa.G

-- Printed by gp.py (a program of this session's own, over the kit's printer) out of the translation; Lean checks it.
namespace Go.Proofs.Ytcbohbeipgcfhaa.G
open Go.Proofs.Ytcbohbeipgcfhaa.Given Go.Proofs.Ytcbohbeipgcfhaa.Short
open Go.RowKit Go.Proofs.YtcbohbeipgcfhaaW.PrintWords Go.Proofs.YtcbohbeipgcfhaaW.PrintLast Go.Proofs.YtcbohbeipgcfhaaW.PrintMore
attribute [local go_sem] max2_int min2_int max_two min_two max_three min_three max_four min_four   -- for this text's walks alone
set_option linter.unusedVariables false
set_option linter.unusedSimpArgs false

/-! ### tp_Next: function 61 -/
def tp_Next.f (s0_0 : List Int) (s0_1 : Int) (a1 : Int) : Option (Int × Int) := (tp_Raw.f s0_0 s0_1).bind fun bt171 => ((mk_Cut.f bt171.1 a1).bind fun t173 => (some (t173, bt171.2)))
set_option maxHeartbeats 8000000 in
set_option maxRecDepth 100000 in
theorem tp_Next.calls (g : Nat) (s0_0 : List Int) (s0_1 : Int) (a1 : Int) (r1 : Int) (r2 : Int) (w0 w : World) (hI : IsS53 w0 w g s0_0 s0_1) (hB : Below w0.heap.size w0 w) (h : tp_Next.f s0_0 s0_1 a1 = some (r1, r2)) :
  Calls Try.prog 61 #[.pointer (some ⟨g, 0, none⟩), .int .i64 a1] w fun e w' => e = .returned (.int .i64 r1) ∧ IsS53 w0 w' g s0_0 r2 ∧ Below w0.heap.size w0 w' ∧ KeepBut w w' g none := by
 have HI0 := Aside0.mk hI; have HK := Aside0.mk (KeepBut.refl w g none); have HL := Aside0.mk hB.size; clear hI; have HW0 := Aside0.mk hB.size; have HB := Aside0.mk hB; clear hB; have H : ((tp_Raw.f s0_0 s0_1).bind fun bt171 => ((mk_Cut.f bt171.1 a1).bind fun t173 => (some (t173, bt171.2)))) = some (r1, r2) := h; clear h; replace H := Option.bind_eq_some_iff.mp H; obtain ⟨⟨t171, t172⟩, A30, H⟩ := H; (try dsimp only at H); have A3 := Aside0.mk A30; clear A30; replace H := Option.bind_eq_some_iff.mp H; obtain ⟨t173, A40, H⟩ := H; (try dsimp only at H); have A4 := Aside0.mk A40; clear A40; simp only [Option.some.injEq, Prod.mk.injEq] at H; obtain ⟨rfl, rfl⟩ := H; (go_enter Try.func61, Try.ntmps61); (go_wp2_with (first | ((with_reducible refine gate_callee (f := 72) rfl ?_); refine gl (some 6) Try.func72 #[.pointer (some ⟨g, 0, none⟩)] ?_; (with_reducible refine (tp_Raw.calls g s0_0 s0_1 t171 t172 w0 _ ?side1 ?side2 A3.out).mono ?_); (case side1 => repeat (first | (with_reducible first | exact HI0.out | apply IsS53.alloc | apply IsS53.drewN | apply IsS53.drew | apply IsS53.set_1) | exact HI0.out)); (case side2 => repeat (first | (with_reducible first | exact HB.out | apply below_alloc | apply pw_below_drewN | apply below_drew1 | refine below_set ?_ (IsS53.ge HI0.out)) | exact HB.out)); rintro e w5 ⟨rfl, hi, hb, hk⟩; refine ⟨_, rfl, ?_⟩; replace HK := Aside0.mk (KeepBut.trans (by repeat (first | (with_reducible first | exact HK.out | apply KeepBut.set_ | apply keep_drewN | apply keep_drew | apply keep_alloc) | exact HK.out)) hk (.inl rfl)); replace HB := Aside0.mk (hb); replace HI0 := Aside0.mk (hi); (try clear hb); (try clear hb2); (try clear hk); (try clear hi)) | ((with_reducible refine gate_callee (f := 21) rfl ?_); refine gl (some 8) Try.func21 #[.int .i64 t171, .int .i64 a1] ?_; (with_reducible refine (mk_Cut.calls t171 a1 t173 _ A4.out).mono ?_); rintro e w' ⟨rfl, ⟨nd, rfl⟩⟩; refine ⟨_, rfl, ?_⟩))); (go_ret); exact ⟨by first | rfl | (simp [errW_none, errW_some] <;> rfl) | (simp [*, errW_none, errW_some] <;> rfl), by repeat (first | (with_reducible first | exact HI0.out | apply IsS53.alloc | apply IsS53.drewN | apply IsS53.drew | apply IsS53.set_1) | exact HI0.out), by repeat (first | (with_reducible first | exact HB.out | apply below_alloc | apply pw_below_drewN | apply below_drew1 | refine below_set ?_ (IsS53.ge HI0.out)) | exact HB.out), by repeat (first | (with_reducible first | exact HK.out | apply KeepBut.set_ | apply keep_drewN | apply keep_drew | apply keep_alloc) | exact HK.out)⟩

end Go.Proofs.Ytcbohbeipgcfhaa.G

-- Printed by gp.py (a program of this session's own, over the kit's printer) out of the translation; Lean checks it.
namespace Go.Proofs.Ytcbohbeipgcfhaa.G
open Go.Proofs.Ytcbohbeipgcfhaa.Given Go.Proofs.Ytcbohbeipgcfhaa.Short
open Go.RowKit Go.Proofs.YtcbohbeipgcfhaaW.PrintWords Go.Proofs.YtcbohbeipgcfhaaW.PrintLast Go.Proofs.YtcbohbeipgcfhaaW.PrintMore
attribute [local go_sem] max2_int min2_int max_two min_two max_three min_three max_four min_four   -- for this text's walks alone
set_option linter.unusedVariables false
set_option linter.unusedSimpArgs false

/-! ### tp_Range: function 47 -/
def tp_Range.f (s0_0 : List Int) (s0_1 : Int) (a1 : Int) (a2 : Int) : Option (Int × Int) := (tp_Next.f s0_0 s0_1 (wrap64 ((wrap64 (a2 - a1)) + 1))).bind fun bt174 => (some (wrap64 (a1 + bt174.1), bt174.2))
set_option maxHeartbeats 8000000 in
set_option maxRecDepth 100000 in
theorem tp_Range.calls (g : Nat) (s0_0 : List Int) (s0_1 : Int) (a1 : Int) (a2 : Int) (r1 : Int) (r2 : Int) (w0 w : World) (hI : IsS53 w0 w g s0_0 s0_1) (hB : Below w0.heap.size w0 w) (h : tp_Range.f s0_0 s0_1 a1 a2 = some (r1, r2)) :
  Calls Try.prog 47 #[.pointer (some ⟨g, 0, none⟩), .int .i64 a1, .int .i64 a2] w fun e w' => e = .returned (.int .i64 r1) ∧ IsS53 w0 w' g s0_0 r2 ∧ Below w0.heap.size w0 w' ∧ KeepBut w w' g none := by
 have HI0 := Aside0.mk hI; have HK := Aside0.mk (KeepBut.refl w g none); have HL := Aside0.mk hB.size; clear hI; have HW0 := Aside0.mk hB.size; have HB := Aside0.mk hB; clear hB; have H : ((tp_Next.f s0_0 s0_1 (wrap64 ((wrap64 (a2 - a1)) + 1))).bind fun bt174 => (some (wrap64 (a1 + bt174.1), bt174.2))) = some (r1, r2) := h; clear h; replace H := Option.bind_eq_some_iff.mp H; obtain ⟨⟨t174, t175⟩, A40, H⟩ := H; (try dsimp only at H); have A4 := Aside0.mk A40; clear A40; simp only [Option.some.injEq, Prod.mk.injEq] at H; obtain ⟨rfl, rfl⟩ := H; (go_enter Try.func47, Try.ntmps47); (go_wp2_with (first | ((with_reducible refine gate_callee (f := 61) rfl ?_); refine gl (some 13) Try.func61 #[.pointer (some ⟨g, 0, none⟩), .int .i64 (wrap64 ((wrap64 (a2 - a1)) + 1))] ?_; (with_reducible refine (tp_Next.calls g s0_0 s0_1 (wrap64 ((wrap64 (a2 - a1)) + 1)) t174 t175 w0 _ ?side1 ?side2 A4.out).mono ?_); (case side1 => repeat (first | (with_reducible first | exact HI0.out | apply IsS53.alloc | apply IsS53.drewN | apply IsS53.drew | apply IsS53.set_1) | exact HI0.out)); (case side2 => repeat (first | (with_reducible first | exact HB.out | apply below_alloc | apply pw_below_drewN | apply below_drew1 | refine below_set ?_ (IsS53.ge HI0.out)) | exact HB.out)); rintro e w5 ⟨rfl, hi, hb, hk⟩; refine ⟨_, rfl, ?_⟩; replace HK := Aside0.mk (KeepBut.trans (by repeat (first | (with_reducible first | exact HK.out | apply KeepBut.set_ | apply keep_drewN | apply keep_drew | apply keep_alloc) | exact HK.out)) hk (.inl rfl)); replace HB := Aside0.mk (hb); replace HI0 := Aside0.mk (hi); (try clear hb); (try clear hb2); (try clear hk); (try clear hi)))); (go_ret); exact ⟨by first | rfl | (simp [errW_none, errW_some] <;> rfl) | (simp [*, errW_none, errW_some] <;> rfl), by repeat (first | (with_reducible first | exact HI0.out | apply IsS53.alloc | apply IsS53.drewN | apply IsS53.drew | apply IsS53.set_1) | exact HI0.out), by repeat (first | (with_reducible first | exact HB.out | apply below_alloc | apply pw_below_drewN | apply below_drew1 | refine below_set ?_ (IsS53.ge HI0.out)) | exact HB.out), by repeat (first | (with_reducible first | exact HK.out | apply KeepBut.set_ | apply keep_drewN | apply keep_drew | apply keep_alloc) | exact HK.out)⟩

end Go.Proofs.Ytcbohbeipgcfhaa.G

-- Printed by gp.py (a program of this session's own, over the kit's printer) out of the translation; Lean checks it.
namespace Go.Proofs.Ytcbohbeipgcfhaa.G
open Go.Proofs.Ytcbohbeipgcfhaa.Given Go.Proofs.Ytcbohbeipgcfhaa.Short
open Go.RowKit Go.Proofs.YtcbohbeipgcfhaaW.PrintWords Go.Proofs.YtcbohbeipgcfhaaW.PrintLast Go.Proofs.YtcbohbeipgcfhaaW.PrintMore
attribute [local go_sem] max2_int min2_int max_two min_two max_three min_three max_four min_four   -- for this text's walks alone
set_option linter.unusedVariables false
set_option linter.unusedSimpArgs false

/-! ### tp_One: function 54 -/
def tp_One.f (s0_0 : List Int) (s0_1 : Int) (a1 : Int) : Option (Bool × Int) := (tp_Next.f s0_0 s0_1 a1).bind fun bt288 => (some ((bt288.1 == (wrap64 (a1 - 1))), bt288.2))
set_option maxHeartbeats 8000000 in
set_option maxRecDepth 100000 in
theorem tp_One.calls (g : Nat) (s0_0 : List Int) (s0_1 : Int) (a1 : Int) (r1 : Bool) (r2 : Int) (w0 w : World) (hI : IsS53 w0 w g s0_0 s0_1) (hB : Below w0.heap.size w0 w) (h : tp_One.f s0_0 s0_1 a1 = some (r1, r2)) :
  Calls Try.prog 54 #[.pointer (some ⟨g, 0, none⟩), .int .i64 a1] w fun e w' => e = .returned (.bool r1) ∧ IsS53 w0 w' g s0_0 r2 ∧ Below w0.heap.size w0 w' ∧ KeepBut w w' g none := by
 have HI0 := Aside0.mk hI; have HK := Aside0.mk (KeepBut.refl w g none); have HL := Aside0.mk hB.size; clear hI; have HW0 := Aside0.mk hB.size; have HB := Aside0.mk hB; clear hB; have H : ((tp_Next.f s0_0 s0_1 a1).bind fun bt288 => (some ((bt288.1 == (wrap64 (a1 - 1))), bt288.2))) = some (r1, r2) := h; clear h; replace H := Option.bind_eq_some_iff.mp H; obtain ⟨⟨t288, t289⟩, A30, H⟩ := H; (try dsimp only at H); have A3 := Aside0.mk A30; clear A30; simp only [Option.some.injEq, Prod.mk.injEq] at H; obtain ⟨rfl, rfl⟩ := H; (go_enter Try.func54, Try.ntmps54); (go_wp2_with (first | ((with_reducible refine gate_callee (f := 61) rfl ?_); refine gl (some 7) Try.func61 #[.pointer (some ⟨g, 0, none⟩), .int .i64 a1] ?_; (with_reducible refine (tp_Next.calls g s0_0 s0_1 a1 t288 t289 w0 _ ?side1 ?side2 A3.out).mono ?_); (case side1 => repeat (first | (with_reducible first | exact HI0.out | apply IsS53.alloc | apply IsS53.drewN | apply IsS53.drew | apply IsS53.set_1) | exact HI0.out)); (case side2 => repeat (first | (with_reducible first | exact HB.out | apply below_alloc | apply pw_below_drewN | apply below_drew1 | refine below_set ?_ (IsS53.ge HI0.out)) | exact HB.out)); rintro e w4 ⟨rfl, hi, hb, hk⟩; refine ⟨_, rfl, ?_⟩; replace HK := Aside0.mk (KeepBut.trans (by repeat (first | (with_reducible first | exact HK.out | apply KeepBut.set_ | apply keep_drewN | apply keep_drew | apply keep_alloc) | exact HK.out)) hk (.inl rfl)); replace HB := Aside0.mk (hb); replace HI0 := Aside0.mk (hi); (try clear hb); (try clear hb2); (try clear hk); (try clear hi)))); (go_ret); exact ⟨by first | rfl | (simp [errW_none, errW_some] <;> rfl) | (simp [*, errW_none, errW_some] <;> rfl), by repeat (first | (with_reducible first | exact HI0.out | apply IsS53.alloc | apply IsS53.drewN | apply IsS53.drew | apply IsS53.set_1) | exact HI0.out), by repeat (first | (with_reducible first | exact HB.out | apply below_alloc | apply pw_below_drewN | apply below_drew1 | refine below_set ?_ (IsS53.ge HI0.out)) | exact HB.out), by repeat (first | (with_reducible first | exact HK.out | apply KeepBut.set_ | apply keep_drewN | apply keep_drew | apply keep_alloc) | exact HK.out)⟩

end Go.Proofs.Ytcbohbeipgcfhaa.G
