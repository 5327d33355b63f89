/- Texts of this claim laid together: MathF, MathU, MathT, MathO, MathP, MathL, MathW, PureRatioSumsAnyOrder. -/
import Derived.Test.YtcbohbeipgcfhaaZSon13
import Derived.Test.YtcbohbeipgcfhaaZSon14
import Derived.Test.YtcbohbeipgcfhaaZSon9
import Derived.Test.YtcbohbeipgcfhaaZSon11
import Derived.Test.YtcbohbeipgcfhaaZSon7
import Derived.Test.YtcbohbeipgcfhaaZSon1
import Derived.Test.YtcbohbeipgcfhaaZSon2
import Derived.Test.YtcbohbeipgcfhaaZSon10
/- What reducing and adding signed magnitudes keep; the sum of the program; what Add tells. -/
namespace Go.Proofs.Ytcbohbeipgcfhaa.Mth
open Go.RowKit Go.Proofs.Ytcbohbeipgcfhaa.G Go.Proofs.Ytcbohbeipgcfhaa.Given Go.Proofs.YtcbohbeipgcfhaaW.PrintWords Go.Proofs.YtcbohbeipgcfhaaW.PrintLast Go.Proofs.YtcbohbeipgcfhaaW.PrintMore
set_option linter.unusedVariables false

theorem red_scale (s : Bool) (k n d : Nat) (hk : 0 < k) : red s (k * n) (k * d) = red s n d := by
  unfold red; rw [Nat.gcd_mul_left, Nat.mul_div_mul_left _ _ hk, Nat.mul_div_mul_left _ _ hk]
theorem red_zero (s : Bool) (d : Nat) (hd : 0 < d) : red s 0 d = (0, 1, 0) := by
  unfold red; rw [Nat.gcd_zero_left, Nat.zero_div, Nat.div_self hd]
  cases s <;> rfl
theorem red_coprime (s : Bool) (n d : Nat) (h : Nat.gcd n d = 1) (hd : 1152921504606846976 < d) : red s n d = (0, 0, 6) := by
  unfold red; rw [h, Nat.div_one, Nat.div_one, if_neg (by omega)]
theorem tot_scale (k : Nat) (hk : 0 < k) (x : Bool) (a : Nat) (y : Bool) (b : Nat) : tot x (k * a) y (k * b) = ((tot x a y b).1, k * (tot x a y b).2) := by
  by_cases h : x = y
  · rw [tot_same _ _ h, tot_same _ _ h, Nat.mul_add]
  · by_cases hl : b ≤ a
    · rw [tot_ge h hl, tot_ge h (Nat.mul_le_mul_left k hl), Nat.mul_sub]
    · rw [tot_lt h hl, tot_lt h (fun c => hl (Nat.le_of_mul_le_mul_left c hk)), Nat.mul_sub]
theorem tot_le (x : Bool) (a : Nat) (y : Bool) (b : Nat) : (tot x a y b).2 ≤ a + b := by
  by_cases h : x = y
  · rw [tot_same _ _ h]; exact Nat.le_refl _
  · by_cases hl : b ≤ a
    · rw [tot_ge h hl]; show a - b ≤ a + b; omega
    · rw [tot_lt h hl]; show b - a ≤ a + b; omega
/-- what divides the sum and one part divides the other part -/
theorem tot_dvd_left {k : Nat} {x : Bool} {a : Nat} {y : Bool} {b : Nat} (ht : k ∣ (tot x a y b).2) (hb : k ∣ b) : k ∣ a := by
  by_cases h : x = y
  · rw [tot_same _ _ h] at ht; exact (Nat.dvd_add_left hb).1 ht
  · by_cases hl : b ≤ a
    · rw [tot_ge h hl] at ht
      have ht' : k ∣ a - b := ht; have := Nat.dvd_add ht' hb
      rwa [Nat.sub_add_cancel hl] at this
    · rw [tot_lt h hl] at ht
      have ht' : k ∣ b - a := ht; have := Nat.dvd_sub hb ht'
      rwa [show b - (b - a) = a from by omega] at this
theorem tot_dvd_right {k : Nat} {x : Bool} {a : Nat} {y : Bool} {b : Nat} (ht : k ∣ (tot x a y b).2) (ha : k ∣ a) : k ∣ b := by
  by_cases h : x = y
  · rw [tot_same _ _ h] at ht; exact (Nat.dvd_add_right ha).1 ht
  · by_cases hl : b ≤ a
    · rw [tot_ge h hl] at ht
      have ht' : k ∣ a - b := ht; have := Nat.dvd_sub ha ht'
      rwa [show a - (a - b) = b from by omega] at this
    · rw [tot_lt h hl] at ht
      have ht' : k ∣ b - a := ht; have := Nat.dvd_add ht' ha
      rwa [Nat.sub_add_cancel (by omega)] at this
theorem coprime_part {A q p : Nat} (h1 : Nat.gcd p A = 1) (h2 : Nat.gcd p q = 1) {k : Nat} (hk : k ∣ p) (hd : k ∣ A * q) : k = 1 := by
  have h3 : Nat.gcd k A = 1 := Nat.Coprime.coprime_dvd_left hk h1; have h4 : k ∣ q := Nat.Coprime.dvd_of_dvd_mul_left h3 hd; have := Nat.dvd_gcd hk h4; rw [h2] at this; exact Nat.dvd_one.1 this

theorem add64_eq (x y z : Nat) (hz : z ≤ 1) : bits_Add64.f x y z = some ((((x + y + z) % 18446744073709551616 : Nat) : Int), (((x + y + z) / 18446744073709551616 : Nat) : Int)) := by
  unfold bits_Add64.f; rw [if_pos (by omega)]; rfl
theorem wplus_ev (x : Bool) (a : Nat) (y : Bool) (b : Nat) (h : a + b < 340282366920938463463374607431768211456) :
    Ev (fun k => ratio_wide_plus.f k x (hi a) (lo a) y (hi b) (lo b)) ((tot x a y b).1, hi (tot x a y b).2, lo (tot x a y b).2) := by
  have hm (a b : Nat) (hab : b ≤ a) (ha : a < 340282366920938463463374607431768211456) (z : Bool) : ((bits_Sub64.f (lo a) (lo b) 0).bind fun bt545 => ((bits_Sub64.f (hi a) (hi b) bt545.2).bind fun bt547 => some (z, bt547.1, bt545.1))) = some (z, hi (a - b), lo (a - b)) := by
    have := minus_eq a b ha (by omega); rw [show (a + 340282366920938463463374607431768211456 - b) % 340282366920938463463374607431768211456 = a - b from by omega] at this; unfold r1_Minus.f at this
    cases e1 : bits_Sub64.f (lo a) (lo b) 0 with
    | none => rw [e1] at this; simp at this
    | some v =>
      rw [e1, Option.bind_some] at this; rw [Option.bind_some]
      cases e2 : bits_Sub64.f (hi a) (hi b) v.2 with
      | none => rw [e2] at this; simp at this
      | some u =>
        rw [e2, Option.bind_some] at this; rw [Option.bind_some]; simp only [Option.some.injEq, Prod.mk.injEq] at this; rw [this.1, this.2]
  by_cases hxy : x = y
  · rw [tot_same a b hxy]
    refine Ev.congr (fun k => ?_) (Ev.now _); have := plus_eq a b (by omega) (by omega); rw [Nat.mod_eq_of_lt h] at this; unfold r1_Plus.f at this; unfold ratio_wide_plus.f; rw [if_pos (by simpa using hxy)]
    cases e1 : bits_Add64.f (lo a) (lo b) 0 with
    | none => rw [e1] at this; simp at this
    | some v =>
      rw [e1, Option.bind_some] at this; rw [Option.bind_some]
      cases e2 : bits_Add64.f (hi a) (hi b) v.2 with
      | none => rw [e2] at this; simp at this
      | some u =>
        rw [e2, Option.bind_some] at this; rw [Option.bind_some]; simp only [Option.some.injEq, Prod.mk.injEq] at this; rw [this.1, this.2]
  · refine Ev.congr (fun k => by unfold ratio_wide_plus.f; rw [if_neg (by simpa using hxy)]) ?_
    refine Ev.bind (wcompare_ev x y a b) ?_; refine Ev.congr (fun k => ?_) (Ev.now _); unfold cmpN
    by_cases hl : b ≤ a
    · rw [tot_ge hxy hl, if_neg (by repeat' (first | omega | split)), hm a b hl (by omega)]
    · rw [tot_lt hxy hl, if_pos (by rw [if_pos (by omega)]; omega), hm b a (by omega) (by omega)]

/-- what Add tells -/
def addR (a b c d : Int) : Int × Int × Int :=
  if okR a b ∧ okR c d then red (tot (decide (a < 0)) (a.natAbs * d.natAbs) (decide (c < 0)) (c.natAbs * b.natAbs)).1 (tot (decide (a < 0)) (a.natAbs * d.natAbs) (decide (c < 0)) (c.natAbs * b.natAbs)).2 (b.natAbs * d.natAbs) else (0, 0, 1)

/-- the heart: with the common divisor of the denominators taken out, only a divisor of it cancels -/
theorem add_core (s : Bool) (g p q t c : Nat) (hg : 0 < g) (hp : 0 < p) (hq : 0 < q) (hc : c = Nat.gcd g t) (h1 : Nat.gcd t p = 1) (h2 : Nat.gcd t q = 1) :
    red s (g * t) (g * p * (g * q)) = red s (t / c) (g / c * p * q) ∧ Nat.gcd (t / c) (g / c * p * q) = 1 := by
  (have hc0 : 0 < c := by rw [hc]; exact Nat.gcd_pos_of_pos_left _ hg); (have ct : c ∣ t := by rw [hc]; exact Nat.gcd_dvd_right _ _); (have cg : c ∣ g := by rw [hc]; exact Nat.gcd_dvd_left _ _); constructor
  · rw [show g * p * (g * q) = g * (g * p * q) from by rw [Nat.mul_left_comm (g * p) g q], red_scale s g _ _ hg]
    obtain ⟨u, hu⟩ := ct; obtain ⟨v, hv⟩ := cg; rw [hu, hv, Nat.mul_div_cancel_left u hc0, Nat.mul_div_cancel_left v hc0, show c * v * p * q = c * (v * p * q) from by simp only [Nat.mul_assoc], red_scale s c _ _ hc0]
  · have e1 : Nat.Coprime (t / c) (g / c) := by
      rw [hc, Nat.gcd_comm g t]; exact Nat.coprime_div_gcd_div_gcd (by rw [Nat.gcd_comm, ← hc]; exact hc0)
    have e2 : Nat.Coprime (t / c) p := Nat.Coprime.coprime_dvd_left (Nat.div_dvd_of_dvd ct) h1; have e3 : Nat.Coprime (t / c) q := Nat.Coprime.coprime_dvd_left (Nat.div_dvd_of_dvd ct) h2; exact Nat.Coprime.mul_right (Nat.Coprime.mul_right e1 e2) e3
end Go.Proofs.Ytcbohbeipgcfhaa.Mth

/- Sum of the program tells what sumR tells, for all lists. -/
namespace Go.Proofs.Ytcbohbeipgcfhaa.Mth
open Go.RowKit Go.Proofs.Ytcbohbeipgcfhaa.G Go.Proofs.Ytcbohbeipgcfhaa.Given Go.Proofs.YtcbohbeipgcfhaaW.PrintWords Go.Proofs.YtcbohbeipgcfhaaW.PrintLast Go.Proofs.YtcbohbeipgcfhaaW.PrintMore
set_option linter.unusedVariables false

/-- the least common multiple of the denominators, if it fits -/
def lcmF : Nat → List S35 → Option Nat
  | C, [] => some C
  | C, a :: l => if C / Nat.gcd C a.f1.natAbs * a.f1.natAbs ≤ 1152921504606846976 then lcmF (C / Nat.gcd C a.f1.natAbs * a.f1.natAbs) l else none
/-- the sum of the numerators over the denominator C -/
def totF (C : Nat) : Bool → Nat → List S35 → Bool × Nat
  | s, n, [] => (s, n)
  | s, n, a :: l => totF C (tot s n (decide (a.f0 < 0)) (a.f0.natAbs * (C / a.f1.natAbs))).1 (tot s n (decide (a.f0 < 0)) (a.f0.natAbs * (C / a.f1.natAbs))).2 l
def okL (l : List S35) : Bool := l.all fun a => decide (okR a.f0 a.f1)
/-- what Sum tells -/
def sumR (l : List S35) : Int × Int × Int :=
  if 100 < l.length then (0, 0, 3) else if okL l = true then (match lcmF 1 l with | none => (0, 0, 6) | some C => red (totF C false 0 l).1 (totF C false 0 l).2 C) else (0, 0, 1)

theorem rd35 (l : List S35) (i : Nat) (h : i < l.length) : rd_T35 l (i : Int) = l[i] := by
  simp [rd_T35, List.getElem?_eq_getElem h]
theorem okL_get {l : List S35} (h : okL l = true) (i : Nat) (hi : i < l.length) : okR l[i].f0 l[i].f1 := by
  have := List.all_eq_true.1 h l[i] (List.getElem_mem hi); exact of_decide_eq_true this
theorem nx (i : Nat) (h : i ≤ 1000) : wrap64 ((i : Int) + 1) = ((i + 1 : Nat) : Int) := by unfold wrap64; omega

theorem rsum2 {l : List S35} (h100 : l.length ≤ 100) (hok : okL l = true) (D : Nat) (D0 : 0 < D) (D1 : D ≤ 1152921504606846976) :
    ∀ (m i : Nat) (s : Bool) (n : Nat), m = l.length - i → i ≤ l.length → n ≤ i * 1329227995784915872903807060280344576 →
      Ev (fun k => ratio_Sum.l2 k D l l.length i s (hi n) (lo n)) (red (totF D s n (l.drop i)).1 (totF D s n (l.drop i)).2 D) := by
  intro m
  induction m with
  | zero =>
    intro i s n hm hi' hn; rw [List.drop_eq_nil_of_le (by omega)]; refine Ev.step (fun k => ?_) (Ev.bind (f := fun _ (t : Int × Int × Int) => some (t.1, t.2.1, t.2.2)) (lowest_ev s n D (by omega) (by omega) D0) (Ev.now _)); simp only [ratio_Sum.l2]; rw [if_neg (by omega)]
  | succ m ih =>
    intro i s n hm hi' hn; (have il : i < l.length := by omega); have ho := okL_get hok i il; rw [List.drop_eq_getElem_cons il]; obtain ⟨ia, ib, b1, la, lb⟩ := ok_small ho; have wb := wrap_abs b1 lb; have q1 : D / l[i].f1.natAbs ≤ 1152921504606846976 := Nat.le_trans (Nat.div_le_self _ _) D1; have ht := times_eq ia (D / l[i].f1.natAbs) (by omega); have hm2 : l[i].f0.natAbs * (D / l[i].f1.natAbs) ≤ 1329227995784915872903807060280344576 := Nat.le_trans (Nat.mul_le_mul la q1) (by decide)
    have e5 : IntKind.u64.wrap (Int.tdiv (D : Int) (l[i].f1.natAbs : Int)) = ((D / l[i].f1.natAbs : Nat) : Int) := by
      rw [show Int.tdiv (D : Int) (l[i].f1.natAbs : Int) = ((D / l[i].f1.natAbs : Nat) : Int) from rfl, wrapN _ (by omega)]
    simp only [totF]; obtain ⟨x, hx⟩ : ∃ x, l[i].f0.natAbs * (D / l[i].f1.natAbs) = x := ⟨_, rfl⟩; rw [hx] at ht hm2 ⊢; have pl := wplus_ev s n (decide (l[i].f0 < 0)) x (by omega); have hle := tot_le s n (decide (l[i].f0 < 0)) x; refine Ev.step (f := fun k => (ratio_wide_plus.f k s (hi n) (lo n) (decide (l[i].f0 < 0)) (hi x) (lo x)).bind fun bt568 => (ratio_Sum.l2 k D l l.length ((i + 1 : Nat) : Int) bt568.1 bt568.2.1 bt568.2.2)) (fun k => ?_) (Ev.bind pl (ih (i + 1) _ _ (by omega) (by omega) (by omega))); simp only [ratio_Sum.l2]; rw [if_pos (by omega), if_pos (by omega), if_pos (by omega), rd35 l i il, wb, if_neg (by omega), e5, ht, Option.bind_some, nx i (by omega)]

theorem rsum1 {l : List S35} (h100 : l.length ≤ 100) (hok : okL l = true) (F : Nat → Int × Int × Int)
    (hF : ∀ D : Nat, 0 < D → D ≤ 1152921504606846976 → Ev (fun k => ratio_Sum.l2 k D l l.length 0 false 0 0) (F D)) :
    ∀ (m i C : Nat), m = l.length - i → i ≤ l.length → 0 < C → C ≤ 1152921504606846976 →
      Ev (fun k => ratio_Sum.l1 k l C l l.length i) (match lcmF C (l.drop i) with | none => (0, 0, 6) | some D => F D) := by
  intro m
  induction m with
  | zero =>
    intro i C hm hi' C0 C1; rw [List.drop_eq_nil_of_le (by omega)]; refine Ev.step (fun k => ?_) (hF C C0 C1); simp only [ratio_Sum.l1]; rw [if_neg (by omega)]
  | succ m ih =>
    intro i C hm hi' C0 C1; (have il : i < l.length := by omega); have ho := okL_get hok i il; rw [List.drop_eq_getElem_cons il]; obtain ⟨ia, ib, b1, la, lb⟩ := ok_small ho; have wb := wrap_abs b1 lb; have hg := gcd_ev l[i].f1.natAbs C; have g0 : 0 < Nat.gcd C l[i].f1.natAbs := Nat.gcd_pos_of_pos_left _ C0; have gle := Nat.gcd_le_left l[i].f1.natAbs C0; have q1 := Nat.div_le_self C (Nat.gcd C l[i].f1.natAbs); have q0 : 0 < C / Nat.gcd C l[i].f1.natAbs := Nat.div_pos gle g0
    have e5 : IntKind.u64.wrap (Int.tdiv (C : Int) ((Nat.gcd C l[i].f1.natAbs : Nat) : Int)) = ((C / Nat.gcd C l[i].f1.natAbs : Nat) : Int) := by
      rw [show Int.tdiv (C : Int) ((Nat.gcd C l[i].f1.natAbs : Nat) : Int) = ((C / Nat.gcd C l[i].f1.natAbs : Nat) : Int) from rfl, wrapN _ (by omega)]
    have hmul := mul64_eq (C / Nat.gcd C l[i].f1.natAbs) l[i].f1.natAbs (by omega) (by omega); have x0 : 0 < C / Nat.gcd C l[i].f1.natAbs * l[i].f1.natAbs := Nat.mul_pos q0 (by omega); simp only [lcmF]; obtain ⟨x, hx⟩ : ∃ x, C / Nat.gcd C l[i].f1.natAbs * l[i].f1.natAbs = x := ⟨_, rfl⟩; rw [hx] at hmul x0 ⊢; refine Ev.step (f := fun k => (ratio_gcd.f k (C : Int) (l[i].f1.natAbs : Int)).bind fun t559 => (if t559 = 0 then (none) else ((bits_Mul64.f (IntKind.u64.wrap (Int.tdiv (C : Int) t559)) (l[i].f1.natAbs : Int)).bind fun bt560 => (if bt560.1 = 0 then (if bt560.2 > 1152921504606846976 then (some (0, 0, 6)) else (ratio_Sum.l1 k l bt560.2 l l.length ((i + 1 : Nat) : Int))) else (some (0, 0, 6)))))) (fun k => ?_) ?_
    · simp only [ratio_Sum.l1]
      rw [if_pos (by omega), if_pos (by omega), if_pos (by omega), rd35 l i il, wb, nx i (by omega)]
    refine Ev.bind hg ?_; refine Ev.congr (fun k => by rw [if_neg (by omega), e5, hmul, Option.bind_some]) ?_
    by_cases hs : x ≤ 1152921504606846976
    · rw [if_pos hs, hi_small (by omega), lo_small (by omega)]
      refine Ev.congr (fun k => by rw [if_pos rfl, if_neg (by omega)]) (ih (i + 1) x (by omega) (by omega) x0 hs)
    · rw [if_neg hs]
      refine Ev.congr (fun k => ?_) (Ev.now _)
      by_cases h2 : hi x = 0
      · rw [if_pos h2, if_pos (by unfold hi at h2; unfold lo; omega)]
      · rw [if_neg h2]

theorem rsum0 {l : List S35} (h100 : l.length ≤ 100) (R : Int × Int × Int) (hR : okL l = true → Ev (fun k => ratio_Sum.l1 k l 1 l l.length 0) R) :
    ∀ (m i : Nat), m = l.length - i → i ≤ l.length → okL (l.take i) = true → Ev (fun k => ratio_Sum.l0 k l l l.length i) (if okL l = true then R else (0, 0, 1)) := by
  intro m
  induction m with
  | zero =>
    intro i hm hi' ht; rw [List.take_of_length_le (by omega)] at ht; rw [if_pos ht]; refine Ev.step (fun k => ?_) (hR ht); simp only [ratio_Sum.l0]; rw [if_neg (by omega)]
  | succ m ih =>
    intro i hm hi' ht; (have il : i < l.length := by omega); refine Ev.step (f := fun k => (ratio_Valid.f k l[i].f0 l[i].f1).bind fun t556 => (if t556 = true then (ratio_Sum.l0 k l l l.length ((i + 1 : Nat) : Int)) else (some (0, 0, 1)))) (fun k => ?_) (Ev.bind (rvalid_ev l[i].f0 l[i].f1) ?_)
    · simp only [ratio_Sum.l0]
      rw [if_pos (by omega), if_pos (by omega), if_pos (by omega), rd35 l i il, nx i (by omega)]
    by_cases ho : okR l[i].f0 l[i].f1
    · refine Ev.congr (fun k => by rw [if_pos (decide_eq_true ho)]) (ih (i + 1) (by omega) (by omega) ?_)
      unfold okL at ht ⊢; rw [List.take_succ_eq_append_getElem il, List.all_append, ht]; simp [ho]
    · have : okL l = false := by
        unfold okL; rw [List.all_eq_false]; exact ⟨l[i], List.getElem_mem il, by simpa using ho⟩
      rw [this, if_neg (by simp)]; exact Ev.congr (fun k => by rw [if_neg (by simpa using ho)]) (Ev.now _)
theorem rsum_ev (l : List S35) : Ev (fun k => ratio_Sum.f k l) (sumR l) := by
  unfold sumR
  by_cases h : 100 < l.length
  · rw [if_pos h]
    exact Ev.congr (fun k => by unfold ratio_Sum.f; rw [if_pos (by omega)]) (Ev.now _)
  · rw [if_neg h]
    refine Ev.congr (fun k => by unfold ratio_Sum.f; rw [if_neg (by omega)]) ?_; refine rsum0 (by omega) _ (fun hok => ?_) l.length 0 (by omega) (by omega) rfl; refine rsum1 (by omega) hok (fun D => red (totF D false 0 l).1 (totF D false 0 l).2 D) (fun D D0 D1 => ?_) l.length 0 1 (by omega) (by omega) (by omega) (by omega); exact rsum2 (by omega) hok D D0 D1 l.length 0 false 0 (by omega) (by omega) (by omega)
end Go.Proofs.Ytcbohbeipgcfhaa.Mth

/- What the tape of drawn numbers hands out: each reading comes to an end, keeps the tape in its bounds, and its numbers lie where they should. -/
namespace Go.Proofs.Ytcbohbeipgcfhaa.Mth
open Go.RowKit Go.Proofs.Ytcbohbeipgcfhaa.G Go.Proofs.Ytcbohbeipgcfhaa.Given Go.Proofs.YtcbohbeipgcfhaaW.PrintWords Go.Proofs.YtcbohbeipgcfhaaW.PrintLast Go.Proofs.YtcbohbeipgcfhaaW.PrintMore
set_option linter.unusedVariables false

/-- the tape and the place on it are in bounds -/
def TapeOk (t : List Int) (p : Int) : Prop := (t.length ≤ 600 ∧ ∀ x ∈ t, I64 x) ∧ 0 ≤ p ∧ p ≤ 600
theorem new_ok {l : List Int} (h : ∀ x ∈ l, (Lit.int .i64 x).wf = true) : ∃ t, mk_New.f l = some (t, 0) ∧ TapeOk t 0 := by
  unfold mk_New.f
  by_cases h6 : (l.length : Int) > 600
  · rw [if_pos h6, if_pos (by omega)]
    exact ⟨_, rfl, ⟨by rw [List.length_take]; omega, fun x hx => I64.of (h x (List.mem_of_mem_take hx))⟩, by omega⟩
  · rw [if_neg h6]
    exact ⟨_, rfl, ⟨by omega, fun x hx => I64.of (h x hx)⟩, by omega⟩
theorem raw_ok {t : List Int} {p : Int} (h : TapeOk t p) : ∃ x p', tp_Raw.f t p = some (x, p') ∧ TapeOk t p' ∧ I64 x := by
  obtain ⟨⟨h1, h2⟩, h3, h4⟩ := h; (have e : wrap64 ((wrap64 (p + 1)) - 1) = p := by unfold wrap64; omega); (have e2 : wrap64 (p + 1) = p + 1 := by unfold wrap64; omega); unfold tp_Raw.f; rw [e, e2]
  by_cases h5 : p ≥ (t.length : Int)
  · rw [if_pos h5]; exact ⟨_, _, rfl, ⟨⟨h1, h2⟩, h3, h4⟩, by unfold I64; omega⟩
  · rw [if_neg h5, if_pos h3, if_pos (by omega)]
    refine ⟨_, _, rfl, ⟨⟨h1, h2⟩, by omega, by omega⟩, ?_⟩; (have hl : p.toNat < t.length := by omega); (have e3 : rd t p = t[p.toNat] := by simp [rd, List.getElem?_eq_getElem hl]); rw [e3]; exact h2 _ (List.getElem_mem hl)
theorem cut_ok {a n : Int} (ha : I64 a) (hn : 1 ≤ n) (hn2 : I64 n) : ∃ x, mk_Cut.f a n = some x ∧ 0 ≤ x ∧ x < n := by
  unfold mk_Cut.f; rw [if_neg (by omega), if_neg (by omega)]; have h1 := Int.tmod_lt_of_pos a (show 0 < n by omega)
  have h2 : -n < Int.tmod a n := by
    have := Int.tmod_lt_of_pos (-a) (show 0 < n by omega); rw [Int.neg_tmod] at this; omega
  unfold I64 at hn2
  split
  · refine ⟨_, rfl, ?_⟩; unfold wrap64; omega
  · exact ⟨_, rfl, by omega⟩
theorem next_ok {t : List Int} {p n : Int} (h : TapeOk t p) (hn : 1 ≤ n) (hn2 : I64 n) : ∃ x p', tp_Next.f t p n = some (x, p') ∧ TapeOk t p' ∧ 0 ≤ x ∧ x < n := by
  obtain ⟨y, p', e, h', hy⟩ := raw_ok h; obtain ⟨x, e2, hx⟩ := cut_ok hy hn hn2; refine ⟨x, p', ?_, h', hx⟩; unfold tp_Next.f; rw [e, Option.bind_some, e2]; rfl
theorem range_ok {t : List Int} {p lo hi : Int} (h : TapeOk t p) (h1 : lo ≤ hi) (h2 : -1000000 ≤ lo) (h3 : hi ≤ 1000000) : ∃ x p', tp_Range.f t p lo hi = some (x, p') ∧ TapeOk t p' ∧ lo ≤ x ∧ x ≤ hi := by
  (have e : wrap64 ((wrap64 (hi - lo)) + 1) = hi - lo + 1 := by unfold wrap64; omega); obtain ⟨x, p', e2, h', hx⟩ := next_ok h (n := hi - lo + 1) (by omega) (by unfold I64; omega); refine ⟨lo + x, p', ?_, h', by omega⟩; unfold tp_Range.f; rw [e, e2, Option.bind_some, show wrap64 (lo + x) = lo + x from by unfold wrap64; omega]
theorem one_ok {t : List Int} {p n : Int} (h : TapeOk t p) (hn : 1 ≤ n) (hn2 : I64 n) : ∃ b p', tp_One.f t p n = some (b, p') ∧ TapeOk t p' := by
  obtain ⟨x, p', e2, h', hx⟩ := next_ok h hn hn2; refine ⟨(x == (wrap64 (n - 1))), p', ?_, h'⟩; unfold tp_One.f; rw [e2, Option.bind_some]
theorem pick_ok {t : List Int} {p : Int} {l : List Int} (h : TapeOk t p) (hl : 0 < l.length) (hl2 : l.length ≤ 1000000) : ∃ x p', tp_Pick.f t p l = some (x, p') ∧ TapeOk t p' ∧ x ∈ l := by
  obtain ⟨x, p', e2, h', hx0, hx1⟩ := next_ok h (n := (l.length : Int)) (by omega) (by unfold I64; omega); refine ⟨rd l x, p', ?_, h', ?_⟩
  · unfold tp_Pick.f
    rw [e2, Option.bind_some, if_pos hx0, if_pos hx1]
  · have hl : x.toNat < l.length := by omega
    (have e3 : rd l x = l[x.toNat] := by simp [rd, List.getElem?_eq_getElem hl]); rw [e3]; exact List.getElem_mem hl
theorem spoil_ok {t : List Int} {p a n : Int} (h : TapeOk t p) (hn : 1 ≤ n) (hn2 : I64 n) : ∃ x p', tp_Spoil.f t p a n = some (x, p') ∧ TapeOk t p' := by
  obtain ⟨b, p1, e1, h1⟩ := one_ok h hn hn2; unfold tp_Spoil.f; rw [if_pos (by omega), e1, Option.bind_some]
  cases b with
  | false => rw [if_neg (by simp)]; exact ⟨_, _, rfl, h1⟩
  | true =>
    rw [if_pos rfl]; obtain ⟨x, p2, e2, h2, _⟩ := pick_ok (l := ([(-1), 0, 1, 2, 31, 32, 99, 100, 200, 201, 9999, 10000, 1000000, 1000001, 1152921504606846976, 1152921504606846977, (-1152921504606846976), 9223372036854775807, (-9223372036854775808)] : List Int)) h1 (by decide) (by decide); unfold tp_Wild.f; rw [e2, Option.bind_some, Option.bind_some]; exact ⟨_, _, rfl, h2⟩

/-- a reduced fraction is valid -/
theorem red_ok {s : Bool} {n d : Nat} {a b : Int} (hd : 0 < d) (h : red s n d = (a, b, 0)) : okR a b ∧ a.natAbs = n / Nat.gcd n d ∧ b.natAbs = d / Nat.gcd n d := by
  unfold red at h; have hg : 0 < Nat.gcd n d := Nat.gcd_pos_of_pos_right _ hd; have hc := Nat.coprime_div_gcd_div_gcd hg; have h1 : 0 < d / Nat.gcd n d := Nat.div_pos (Nat.gcd_le_right _ hd) hg; obtain ⟨X, hX⟩ : ∃ X, n / Nat.gcd n d = X := ⟨_, rfl⟩; obtain ⟨Y, hY⟩ : ∃ Y, d / Nat.gcd n d = Y := ⟨_, rfl⟩; rw [hX, hY] at h hc ⊢; rw [hY] at h1
  split at h
  · rename_i hb
    simp only [Prod.mk.injEq] at h; obtain ⟨h2, h3, _⟩ := h; (have ea : a.natAbs = X := by rw [← h2]; split <;> omega); (have eb : b.natAbs = Y := by rw [← h3]; omega); refine ⟨⟨?_, ?_⟩, ea, eb⟩
    · refine ⟨by omega, by omega, ?_, ?_⟩ <;> omega
    · rw [ea, eb]; exact hc
  · simp at h
theorem red_fits (s : Bool) (n d : Nat) (hn : n ≤ 1152921504606846976) (hd : d ≤ 1152921504606846976) : ∃ a b, red s n d = (a, b, 0) := by
  unfold red; rw [if_pos ⟨Nat.le_trans (Nat.div_le_self _ _) hn, Nat.le_trans (Nat.div_le_self _ _) hd⟩]; exact ⟨_, _, rfl⟩
theorem newR_ok {x y a b : Int} (h : newR x y = (a, b, 0)) : okR a b ∧ a.natAbs ≤ x.natAbs ∧ b.natAbs ≤ y.natAbs := by
  unfold newR at h
  split at h
  · simp at h
  · obtain ⟨h1, h2, h3⟩ := red_ok (by omega) h
    exact ⟨h1, by rw [h2]; exact Nat.div_le_self _ _, by rw [h3]; exact Nat.div_le_self _ _⟩

theorem small_ok {t : List Int} {p : Int} (h : TapeOk t p) : ∃ a b p', Ev (fun k => tp_Small.f k t p) (a, b, p') ∧ TapeOk t p' ∧ okR a b ∧ a.natAbs ≤ 30 ∧ b.natAbs ≤ 12 := by
  obtain ⟨x, p1, e1, h1, x0, x1⟩ := range_ok (lo := -30) (hi := 30) h (by omega) (by omega) (by omega); obtain ⟨y, p2, e2, h2, y0, y1⟩ := range_ok (lo := 1) (hi := 12) h1 (by omega) (by omega) (by omega); (have hr : ∃ a b, newR x y = (a, b, 0) := by unfold newR; rw [if_neg (by omega)]; exact red_fits _ _ _ (by omega) (by omega)); obtain ⟨a, b, hr⟩ := hr; obtain ⟨o1, o2, o3⟩ := newR_ok hr; refine ⟨a, b, p2, ?_, h2, o1, by omega, by omega⟩; refine Ev.congr (fun k => by unfold tp_Small.f; rw [e1, Option.bind_some, e2, Option.bind_some]) ?_; have := fnew_ev (a := x) (b := y) (by unfold I64; omega) (by unfold I64; omega); rw [hr] at this; exact Ev.bind (f := fun _ (t : Int × Int × Int) => some (t.1, t.2.1, p2)) this (Ev.now _)

theorem all_i64 {l : List Int} (h : l.all (fun x => decide (-9223372036854775808 ≤ x) && decide (x ≤ 9223372036854775807)) = true) {x : Int} (hx : x ∈ l) : I64 x := by
  have := List.all_eq_true.1 h x hx
  simpa [I64] using this
theorem okR_one : okR 1 1 := by decide
theorem ratio_j_ok {t : List Int} {p x y : Int} (h : TapeOk t p) (hx : I64 x) (hy : I64 y) : ∃ a b p', Ev (fun k => tp_Ratio.j0 k x y t p) (a, b, p') ∧ TapeOk t p' ∧ okR a b := by
  have key (y2 : Int) (hy2 : I64 y2) (p2 : Int) (h2 : TapeOk t p2) : ∃ a b p', Ev (fun k => (r1_New.f k x y2).bind fun bt => (if bt.2.2 = 0 then (some (bt.1, bt.2.1, p2)) else (some (1, 1, p2)))) (a, b, p') ∧ TapeOk t p' ∧ okR a b := by
    have e := fnew_ev hx hy2; obtain ⟨u, v, w, hn⟩ : ∃ u v w, newR x y2 = (u, v, w) := ⟨_, _, _, rfl⟩; rw [hn] at e
    by_cases hw : w = 0
    · subst hw
      exact ⟨u, v, p2, Ev.bind (f := fun _ (bt : Int × Int × Int) => (if bt.2.2 = 0 then (some (bt.1, bt.2.1, p2)) else (some (1, 1, p2)))) e (Ev.congr (fun k => by rw [if_pos rfl]) (Ev.now _)), h2, (newR_ok hn).1⟩
    · exact ⟨1, 1, p2, Ev.bind (f := fun _ (bt : Int × Int × Int) => (if bt.2.2 = 0 then (some (bt.1, bt.2.1, p2)) else (some (1, 1, p2)))) e (Ev.congr (fun k => by rw [if_neg hw]) (Ev.now _)), h2, okR_one⟩
  obtain ⟨b, p1, e1, h1⟩ := one_ok (n := 4) h (by omega) (by unfold I64; omega)
  cases b with
  | false =>
    obtain ⟨a, b, p', e, r⟩ := key y hy p1 h1; refine ⟨a, b, p', Ev.step (fun k => ?_) e, r⟩; simp only [tp_Ratio.j0]; rw [e1, Option.bind_some, if_neg (by simp)]
  | true =>
    obtain ⟨z, p2, e2, h2, hz⟩ := pick_ok (l := ([1152921504606846976, 1152921504606846975, 576460752303423488, 1073741824, 1000000000, 1000000007, 432345564227567616, 1152921504606846869] : List Int)) h1 (by decide) (by decide); obtain ⟨a, b, p', e, r⟩ := key z (all_i64 (by decide) hz) p2 h2; refine ⟨a, b, p', Ev.step (fun k => ?_) e, r⟩; simp only [tp_Ratio.j0]; rw [e1, Option.bind_some, if_pos rfl, e2, Option.bind_some]
theorem ratio_ok {t : List Int} {p : Int} (h : TapeOk t p) : ∃ a b p', Ev (fun k => tp_Ratio.f k t p) (a, b, p') ∧ TapeOk t p' ∧ okR a b := by
  obtain ⟨x, p1, e1, h1, x0, x1⟩ := range_ok (lo := -9) (hi := 9) h (by omega) (by omega) (by omega); obtain ⟨y, p2, e2, h2, y0, y1⟩ := range_ok (lo := 1) (hi := 9) h1 (by omega) (by omega) (by omega); obtain ⟨b, p3, e3, h3⟩ := one_ok (n := 4) h2 (by omega) (by unfold I64; omega); have hy : I64 y := by unfold I64; omega
  cases b with
  | false =>
    obtain ⟨a, b, p', e, r⟩ := ratio_j_ok (x := x) (y := y) h3 (by unfold I64; omega) hy; refine ⟨a, b, p', Ev.congr (fun k => ?_) e, r⟩; unfold tp_Ratio.f; rw [e1, Option.bind_some, e2, Option.bind_some, e3, Option.bind_some, if_neg (by simp)]
  | true =>
    obtain ⟨z, p4, e4, h4, hz⟩ := pick_ok (l := ([1152921504606846976, 1152921504606846975, (-1152921504606846976), 576460752303423488, 1073741824, 3486784401, (-1000000007), 1152921504606846883] : List Int)) h3 (by decide) (by decide); obtain ⟨a, b, p', e, r⟩ := ratio_j_ok (x := z) (y := y) h4 (all_i64 (by decide) hz) hy; refine ⟨a, b, p', Ev.congr (fun k => ?_) e, r⟩; unfold tp_Ratio.f; rw [e1, Option.bind_some, e2, Option.bind_some, e3, Option.bind_some, if_pos rfl, e4, Option.bind_some]
theorem loose_ok {t : List Int} {p : Int} (h : TapeOk t p) : ∃ a b p', Ev (fun k => tp_Loose.f k t p) (a, b, p') ∧ TapeOk t p' := by
  obtain ⟨a, b, p1, e1, h1, _⟩ := ratio_ok h; obtain ⟨c, p2, e2, h2⟩ := one_ok (n := 3) h1 (by omega) (by unfold I64; omega)
  cases c with
  | false =>
    refine ⟨a, b, p2, Ev.congr (fun k => by unfold tp_Loose.f; rfl) (Ev.bind e1 (Ev.congr (fun k => ?_) (Ev.now _))), h2⟩; rw [e2, Option.bind_some, if_neg (by simp)]
  | true =>
    obtain ⟨x, p3, e3, h3, x0, x1⟩ := range_ok (lo := -8) (hi := 8) h2 (by omega) (by omega) (by omega); obtain ⟨u, p4, e4, h4⟩ := spoil_ok (a := x) (n := 3) h3 (by omega) (by unfold I64; omega); obtain ⟨y, p5, e5, h5, y0, y1⟩ := range_ok (lo := -1) (hi := 8) h4 (by omega) (by omega) (by omega); obtain ⟨v, p6, e6, h6⟩ := spoil_ok (a := y) (n := 3) h5 (by omega) (by unfold I64; omega); refine ⟨u, v, p6, Ev.congr (fun k => by unfold tp_Loose.f; rfl) (Ev.bind e1 (Ev.congr (fun k => ?_) (Ev.now _))), h6⟩; rw [e2, Option.bind_some, if_pos rfl, e3, Option.bind_some, e4, Option.bind_some, e5, Option.bind_some, e6, Option.bind_some]
end Go.Proofs.Ytcbohbeipgcfhaa.Mth

/- What the reduced sum denotes, and that the comparison is a total order that addition keeps. -/
namespace Go.Proofs.Ytcbohbeipgcfhaa.Mth
open Go.RowKit Go.Proofs.YtcbohbeipgcfhaaW.PrintWords Go.Proofs.YtcbohbeipgcfhaaW.PrintLast Go.Proofs.YtcbohbeipgcfhaaW.PrintMore
set_option linter.unusedVariables false

/-- a magnitude with its sign -/
def sgn (s : Bool) (n : Nat) : Int := if s then -(n : Int) else (n : Int)
theorem red_val {s : Bool} {n d : Nat} {u v : Int} (hd : 0 < d) (h : red s n d = (u, v, 0)) : u * (d : Int) = sgn s n * v := by
  have hn := Nat.div_mul_cancel (Nat.gcd_dvd_left n d); have hdd := Nat.div_mul_cancel (Nat.gcd_dvd_right n d); unfold red at h
  split at h
  · simp only [Prod.mk.injEq] at h
    obtain ⟨h2, h3, _⟩ := h; subst h2; subst h3; obtain ⟨X, hX⟩ : ∃ X, n / Nat.gcd n d = X := ⟨_, rfl⟩; obtain ⟨Y, hY⟩ : ∃ Y, d / Nat.gcd n d = Y := ⟨_, rfl⟩; obtain ⟨G, hG⟩ : ∃ G, Nat.gcd n d = G := ⟨_, rfl⟩; rw [hX, hG] at hn; rw [hY, hG] at hdd; rw [hX, hY]; (have e1 : (n : Int) = X * G := by rw [← hn, Int.natCast_mul]); (have e2 : (d : Int) = Y * G := by rw [← hdd, Int.natCast_mul]); unfold sgn; rw [e1, e2]
    cases s with
    | true => simp only [if_true]; grind
    | false => simp only [Bool.false_eq_true, if_false]; grind
  · simp at h
theorem tot_val (x : Bool) (a : Nat) (y : Bool) (b : Nat) : sgn (tot x a y b).1 (tot x a y b).2 = sgn x a + sgn y b := by
  by_cases h : x = y
  · rw [tot_same _ _ h]; subst h; unfold sgn; cases x <;> simp <;> omega
  · by_cases hl : b ≤ a
    · rw [tot_ge h hl]; unfold sgn; cases x <;> cases y <;> simp at h ⊢ <;> omega
    · rw [tot_lt h hl]; unfold sgn; cases x <;> cases y <;> simp at h ⊢ <;> omega
theorem sgn_mul {a d : Int} (hd : 0 ≤ d) : sgn (decide (a < 0)) (a.natAbs * d.natAbs) = a * d := by
  rw [signed a d hd]; unfold sgn
  by_cases h : a < 0
  · rw [if_pos (decide_eq_true h), if_pos h]
  · rw [if_neg (by simpa using h), if_neg h]
theorem add_val {a b c d u v : Int} (h1 : okR a b) (h2 : okR c d) (h : addR a b c d = (u, v, 0)) : okR u v ∧ u * (b * d) = (a * d + c * b) * v := by
  have b1 := (ok_small h1).2.2.1; have d1 := (ok_small h2).2.2.1; unfold addR at h; rw [if_pos ⟨h1, h2⟩] at h; have p3 := mag_pos (a := b) (d := d) (by omega) (by omega); have hv := red_val p3 h; rw [tot_val, sgn_mul (by omega), sgn_mul (by omega), Int.natCast_mul, show ((b.natAbs : Nat) : Int) = b from by omega, show ((d.natAbs : Nat) : Int) = d from by omega] at hv; exact ⟨(red_ok p3 h).1, hv⟩
/-- two valid fractions of the same value are the same -/
theorem okR_inj {a b c d : Int} (h1 : okR a b) (h2 : okR c d) (h : a * d = c * b) : a = c ∧ b = d := by
  have b1 := (ok_small h1).2.2.1; have d1 := (ok_small h2).2.2.1; (have hn : a.natAbs * d.natAbs = c.natAbs * b.natAbs := by rw [← Int.natAbs_mul, ← Int.natAbs_mul, h]); have e1 : b.natAbs ∣ d.natAbs := Nat.Coprime.dvd_of_dvd_mul_left (by rw [Nat.coprime_comm]; exact h1.2) ⟨c.natAbs, by rw [hn, Nat.mul_comm]⟩; have e2 : d.natAbs ∣ b.natAbs := Nat.Coprime.dvd_of_dvd_mul_left (by rw [Nat.coprime_comm]; exact h2.2) ⟨a.natAbs, by rw [← hn, Nat.mul_comm]⟩; have e3 := Nat.dvd_antisymm e1 e2; (have e4 : b = d := by omega); subst e4; exact ⟨Int.eq_of_mul_eq_mul_right (show b ≠ 0 by omega) h, rfl⟩
theorem cmpR_of {a b c d : Int} (h1 : okR a b) (h2 : okR c d) : cmpR a b c d = if a * d < c * b then -1 else if a * d = c * b then 0 else 1 := by unfold cmpR; rw [if_pos ⟨h1, h2⟩]
theorem cmpR_neg {a b c d : Int} (h1 : okR a b) (h2 : okR c d) : cmpR a b c d = wrap64 (-(cmpR c d a b)) := by
  rw [cmpR_of h1 h2, cmpR_of h2 h1]; obtain ⟨X, hX⟩ : ∃ X, a * d = X := ⟨_, rfl⟩; obtain ⟨Y, hY⟩ : ∃ Y, c * b = Y := ⟨_, rfl⟩; rw [hX, hY]; unfold wrap64; repeat' (first | omega | split)
theorem cmpR_eq {a b c d : Int} (h1 : okR a b) (h2 : okR c d) : (cmpR a b c d == 0) = (a == c && (b == d)) := by
  rw [cmpR_of h1 h2, Bool.eq_iff_iff, beq_iff_eq, Bool.and_eq_true, beq_iff_eq, beq_iff_eq]; constructor
  · intro h
    exact okR_inj h1 h2 (by repeat' (first | omega | split at h))
  · rintro ⟨rfl, rfl⟩
    rw [if_neg (by omega), if_pos rfl]
theorem cmpR_trans {a b c d e f : Int} (h1 : okR a b) (h2 : okR c d) (h3 : okR e f) (h : cmpR a b c d ≤ 0) (h' : cmpR c d e f ≤ 0) : cmpR a b e f ≤ 0 := by
  have b1 := (ok_small h1).2.2.1; have d1 := (ok_small h2).2.2.1; have f1 := (ok_small h3).2.2.1; rw [cmpR_of h1 h2] at h; rw [cmpR_of h2 h3] at h'; rw [cmpR_of h1 h3]; (have g1 : a * d ≤ c * b := by repeat' (first | omega | split at h)); (have g2 : c * f ≤ e * d := by repeat' (first | omega | split at h')); have k1 := Int.mul_le_mul_of_nonneg_right g1 (show 0 ≤ f by omega); have k2 := Int.mul_le_mul_of_nonneg_right g2 (show 0 ≤ b by omega)
  have k3 : d * (a * f) ≤ d * (e * b) := by
    rw [show d * (a * f) = a * d * f from by grind, show d * (e * b) = e * d * b from by grind]; rw [show c * b * f = c * f * b from by grind] at k1; omega
  have k4 : a * f ≤ e * b := Int.le_of_mul_le_mul_left k3 (by omega); repeat' (first | omega | split)
theorem scale_cmp {x y z w K L : Int} (hK : 0 < K) (hL : 0 < L) (h : (x - y) * K = L * (z - w)) : (x < y ↔ z < w) ∧ (x = y ↔ z = w) := by
  (have a1 : x < y → (x - y) * K < 0 := fun h => Int.mul_neg_of_neg_of_pos (by omega) hK); (have a2 : y < x → 0 < (x - y) * K := fun h => Int.mul_pos (by omega) hK); (have a3 : x = y → (x - y) * K = 0 := fun h => by rw [h, Int.sub_self, Int.zero_mul]); (have b1 : z < w → L * (z - w) < 0 := fun h => Int.mul_neg_of_pos_of_neg hL (by omega)); (have b2 : w < z → 0 < L * (z - w) := fun h => Int.mul_pos hL (by omega)); (have b3 : z = w → L * (z - w) = 0 := fun h => by rw [h, Int.sub_self, Int.mul_zero]); rw [h] at a1 a2 a3; obtain ⟨V, hV⟩ : ∃ V, L * (z - w) = V := ⟨_, rfl⟩; rw [hV] at a1 a2 a3 b1 b2 b3; omega
theorem cmpR_add {a b c d e f u v p q : Int} (h1 : okR a b) (h2 : okR c d) (h3 : okR e f) (hx : addR a b e f = (u, v, 0)) (hy : addR c d e f = (p, q, 0)) : cmpR u v p q = cmpR a b c d := by
  have b1 := (ok_small h1).2.2.1; have d1 := (ok_small h2).2.2.1; have f1 := (ok_small h3).2.2.1; obtain ⟨o1, e1⟩ := add_val h1 h3 hx; obtain ⟨o2, e2⟩ := add_val h2 h3 hy; have v1 := (ok_small o1).2.2.1; have q1 := (ok_small o2).2.2.1; rw [cmpR_of h1 h2, cmpR_of o1 o2]; (have key : (u * q - p * v) * (b * f * (d * f)) = (v * q * (f * f)) * (a * d - c * b) := by grind); obtain ⟨k1, k2⟩ := scale_cmp (Int.mul_pos (Int.mul_pos (by omega) (by omega)) (Int.mul_pos (by omega) (by omega))) (Int.mul_pos (Int.mul_pos (by omega) (by omega)) (Int.mul_pos (by omega) (by omega))) key; simp only [k1, k2]
end Go.Proofs.Ytcbohbeipgcfhaa.Mth

/- The sum of a list does not depend on its order; the drawn order is a permutation. -/
namespace Go.Proofs.Ytcbohbeipgcfhaa.Mth
open Go.RowKit Go.Proofs.Ytcbohbeipgcfhaa.G Go.Proofs.Ytcbohbeipgcfhaa.Given Go.Proofs.YtcbohbeipgcfhaaW.PrintWords Go.Proofs.YtcbohbeipgcfhaaW.PrintLast Go.Proofs.YtcbohbeipgcfhaaW.PrintMore
set_option linter.unusedVariables false
theorem step_lcm (C d : Nat) (hC : 0 < C) : C / Nat.gcd C d * d = Nat.lcm C d := by
  have hg : 0 < Nat.gcd C d := Nat.gcd_pos_of_pos_left _ hC; obtain ⟨u, hu⟩ := Nat.gcd_dvd_left C d; unfold Nat.lcm; obtain ⟨g, hge⟩ : ∃ g, Nat.gcd C d = g := ⟨_, rfl⟩; rw [hge] at hu hg ⊢; subst hu; rw [Nat.mul_div_cancel_left _ hg, Nat.mul_assoc, Nat.mul_div_cancel_left _ hg]
def lcmL : Nat → List S35 → Nat
  | C, [] => C
  | C, a :: l => lcmL (Nat.lcm C a.f1.natAbs) l
def posL (l : List S35) : Prop := ∀ a ∈ l, 0 < a.f1.natAbs
theorem lcmL_pos {l : List S35} : ∀ {C : Nat}, 0 < C → posL l → 0 < lcmL C l ∧ C ≤ lcmL C l := by
  induction l with
  | nil => intro C h _; exact ⟨h, Nat.le_refl _⟩
  | cons a l ih =>
    intro C h hp; have ha := hp a List.mem_cons_self; have h1 : 0 < Nat.lcm C a.f1.natAbs := Nat.lcm_pos h ha; obtain ⟨i1, i2⟩ := ih h1 (fun x hx => hp x (List.mem_cons_of_mem _ hx)); exact ⟨i1, Nat.le_trans (Nat.le_of_dvd h1 (Nat.dvd_lcm_left _ _)) i2⟩
theorem lcmF_eq {l : List S35} : ∀ {C : Nat}, 0 < C → C ≤ 1152921504606846976 → posL l → lcmF C l = if lcmL C l ≤ 1152921504606846976 then some (lcmL C l) else none := by
  induction l with
  | nil => intro C _ h _; rw [show lcmL C [] = C from rfl, if_pos h]; rfl
  | cons a l ih =>
    intro C h h1 hp; have ha := hp a List.mem_cons_self; (have hp2 : posL l := fun x hx => hp x (List.mem_cons_of_mem _ hx)); have h2 : 0 < Nat.lcm C a.f1.natAbs := Nat.lcm_pos h ha; rw [show lcmL C (a :: l) = lcmL (Nat.lcm C a.f1.natAbs) l from rfl]; simp only [lcmF]; rw [step_lcm _ _ h]
    by_cases hs : Nat.lcm C a.f1.natAbs ≤ 1152921504606846976
    · rw [if_pos hs, ih h2 hs hp2]
    · have := (lcmL_pos h2 hp2).2
      rw [if_neg hs, if_neg (by omega)]
theorem lcmL_perm {l m : List S35} (h : l.Perm m) : ∀ C, lcmL C l = lcmL C m := by
  induction h with
  | nil => intro C; rfl
  | cons x _ ih => intro C; simp only [lcmL]; exact ih _
  | swap x y l => intro C; simp only [lcmL]; rw [Nat.lcm_assoc, Nat.lcm_comm y.f1.natAbs, ← Nat.lcm_assoc]
  | trans _ _ ih1 ih2 => intro C; exact (ih1 C).trans (ih2 C)
def valL (C : Nat) : List S35 → Int
  | [] => 0
  | a :: l => a.f0 * ((C / a.f1.natAbs : Nat) : Int) + valL C l
theorem valL_perm (C : Nat) {l m : List S35} (h : l.Perm m) : valL C l = valL C m := by
  induction h with
  | nil => rfl
  | cons x _ ih => simp only [valL, ih]
  | swap x y l => simp only [valL]; omega
  | trans _ _ ih1 ih2 => exact ih1.trans ih2
theorem totF_val (C : Nat) (l : List S35) : ∀ s n, sgn (totF C s n l).1 (totF C s n l).2 = sgn s n + valL C l := by
  induction l with
  | nil => intro s n; simp [totF, valL]
  | cons a l ih =>
    intro s n; simp only [totF, valL]; rw [ih, tot_val]; have := sgn_mul (a := a.f0) (d := ((C / a.f1.natAbs : Nat) : Int)) (Int.natCast_nonneg _); rw [Int.natAbs_natCast] at this; rw [this]; omega
theorem red_sgn {s t : Bool} {n m C : Nat} (hC : 0 < C) (h : sgn s n = sgn t m) : red s n C = red t m C := by
  (have e : n = m := by unfold sgn at h; cases s <;> cases t <;> simp only [if_true, Bool.false_eq_true, if_false] at h <;> omega); subst e
  by_cases h0 : n = 0
  · subst h0; rw [red_zero _ _ hC, red_zero _ _ hC]
  · have : s = t := by unfold sgn at h; cases s <;> cases t <;> simp at h ⊢ <;> omega
    rw [this]
theorem okL_pos {l : List S35} (h : okL l = true) : posL l := by
  intro a ha; have := List.all_eq_true.1 h a ha; have := (ok_small (of_decide_eq_true this)).2.2.1; omega
theorem sumR_perm {l m : List S35} (h : l.Perm m) : sumR l = sumR m := by
  have hl := h.length_eq
  have ho : okL l = okL m := by
    unfold okL; rw [Bool.eq_iff_iff, List.all_eq_true, List.all_eq_true]; exact ⟨fun c x hx => c x (h.mem_iff.2 hx), fun c x hx => c x (h.mem_iff.1 hx)⟩
  unfold sumR; rw [hl, ho]
  by_cases h1 : 100 < m.length
  · rw [if_pos h1, if_pos h1]
  · rw [if_neg h1, if_neg h1]
    by_cases h2 : okL m = true
    · rw [if_pos h2, if_pos h2, lcmF_eq (by omega) (by omega) (okL_pos h2), lcmF_eq (by omega) (by omega) (okL_pos (ho.trans h2)), lcmL_perm h]
      have hp := (lcmL_pos (l := m) (C := 1) (by omega) (okL_pos h2)).1
      by_cases h3 : lcmL 1 m ≤ 1152921504606846976
      · rw [if_pos h3]
        exact red_sgn hp (by rw [totF_val, totF_val, valL_perm _ h])
      · rw [if_neg h3]
    · rw [if_neg h2, if_neg h2]
theorem order_l_ok {t : List Int} (n : Nat) (hn : n ≤ 1000) : ∀ (m i : Nat) (p : Int) (xs : List Int), m = n - i → i ≤ n → TapeOk t p → xs.Perm ((List.range i).map fun (k : Nat) => (k : Int)) →
    ∃ ys p', Ev (fun k => tp_Order.l0 k n xs i t p) (ys, p') ∧ TapeOk t p' ∧ ys.Perm ((List.range n).map fun (k : Nat) => (k : Int)) := by
  intro m
  induction m with
  | zero =>
    intro i p xs hm hi h hp; (obtain rfl : i = n := by omega); refine ⟨xs, p, ev_some (fun k => ?_), h, hp⟩; simp only [tp_Order.l0]; rw [if_neg (by omega)]
  | succ m ih =>
    intro i p xs hm hi h hp; (have hl : xs.length = i := by rw [hp.length_eq]; simp); (have nx : wrap64 ((i : Int) + 1) = ((i + 1 : Nat) : Int) := by unfold wrap64; omega); obtain ⟨x, p1, e1, h1, x0, x1⟩ := next_ok (n := ((i + 1 : Nat) : Int)) h (by omega) (by unfold I64; omega); obtain ⟨a, rfl⟩ := Int.eq_ofNat_of_zero_le x0
    have hp2 : (([] ++ xs.take a ++ [(i : Int)]) ++ xs.drop a).Perm ((List.range (i + 1)).map fun (k : Nat) => (k : Int)) := by
      rw [List.range_succ, List.map_append, List.nil_append]
      have c1 : ((xs.take a ++ [(i : Int)]) ++ xs.drop a).Perm ([(i : Int)] ++ (xs.take a ++ xs.drop a)) := by
        rw [← List.append_assoc]; exact List.Perm.append_right _ List.perm_append_comm
      rw [List.take_append_drop] at c1; refine c1.trans ?_; refine (List.perm_append_comm).trans ?_; exact List.Perm.append_right _ hp
    obtain ⟨ys, p', e, r⟩ := ih (i + 1) p1 _ (by omega) (by omega) h1 hp2; refine ⟨ys, p', Ev.step (fun k => ?_) e, r⟩; simp only [tp_Order.l0]; (have l1 : ([] ++ xs.take a).length < 17592186044416 := by simp; omega); (have l2 : ([] : List Int).length + (xs.take a).length < 17592186044416 := by simp; omega); (have l3 : (([] ++ xs.take a) ++ [(i : Int)]).length + (xs.drop a).length < 17592186044416 := by simp; omega); rw [if_pos (by omega), nx, e1, Option.bind_some, if_pos (show (0 : Int) ≤ (a : Int) by omega), if_pos (show (a : Int) ≤ (xs.length : Int) by omega), Option.bind_some]; simp only [Int.toNat_natCast]; rw [if_pos l2, Option.bind_some, if_pos l1, Option.bind_some, Option.bind_some, if_pos l3]
theorem order_ok {t : List Int} {p : Int} (n : Nat) (hn : n ≤ 1000) (h : TapeOk t p) : ∃ ys p', Ev (fun k => tp_Order.f k t p n) (ys, p') ∧ TapeOk t p' ∧ ys.Perm ((List.range n).map fun (k : Nat) => (k : Int)) := by
  obtain ⟨ys, p', e, r⟩ := order_l_ok n hn n 0 p [] (by omega) (by omega) h List.Perm.nil; exact ⟨ys, p', Ev.congr (fun k => by unfold tp_Order.f; rfl) e, r⟩
end Go.Proofs.Ytcbohbeipgcfhaa.Mth

/- The drawn list of fractions: the drawing comes to an end and the list is short. -/
namespace Go.Proofs.Ytcbohbeipgcfhaa.Mth
open Go.RowKit Go.Proofs.Ytcbohbeipgcfhaa.G Go.Proofs.Ytcbohbeipgcfhaa.Given Go.Proofs.YtcbohbeipgcfhaaW.PrintWords Go.Proofs.YtcbohbeipgcfhaaW.PrintLast Go.Proofs.YtcbohbeipgcfhaaW.PrintMore
set_option linter.unusedVariables false
theorem list_l_ok {t : List Int} (n : Nat) : ∀ (p : Int) (xs : List S35), TapeOk t p → xs.length + n ≤ 6 →
    ∃ ys p', Ev (fun k => awardingbodylaw01_list.l0 k true xs n t p) (ys, p') ∧ TapeOk t p' ∧ ys.length ≤ 6 := by
  induction n with
  | zero =>
    intro p xs h hn; refine ⟨xs, p, ev_some (fun k => ?_), h, by omega⟩; simp only [awardingbodylaw01_list.l0]; rw [if_neg (by simp)]
  | succ n ih =>
    intro p xs h hn; (have hw : wrap64 (((n + 1 : Nat) : Int) - 1) = (n : Int) := by unfold wrap64; omega); obtain ⟨b, p1, e1, h1⟩ := one_ok (n := 6) h (by omega) (by unfold I64; omega)
    cases b with
    | true =>
      obtain ⟨u, v, p2, e2, h2⟩ := loose_ok h1; obtain ⟨ys, p', e, r⟩ := ih p2 (xs ++ [⟨u, v⟩]) h2 (by simp; omega); refine ⟨ys, p', Ev.step (f := fun k => awardingbodylaw01_list.j1 k true xs ((n + 1 : Nat) : Int) true t p1) (fun k => ?_) (Ev.step (fun k => ?_) (Ev.bind (f := fun k (bt : Int × Int × Int) => if xs.length < 8796093022208 then (awardingbodylaw01_list.l0 k true (xs ++ [(⟨bt.1, bt.2.1⟩ : S35)]) (wrap64 (((n + 1 : Nat) : Int) - 1)) t bt.2.2) else none) e2 (Ev.congr (fun k => by rw [if_pos (by omega), hw]) e))), r⟩
      · simp only [awardingbodylaw01_list.l0]
        rw [if_pos (by omega), if_pos trivial, e1, Option.bind_some]
      · simp only [awardingbodylaw01_list.j1]
        rw [if_pos trivial]
    | false =>
      obtain ⟨c, p2, e2, h2, c0, c1⟩ := next_ok (n := 2) h1 (by omega) (by unfold I64; omega)
      by_cases hc : c = 0
      · obtain ⟨u, v, p3, e3, h3, _⟩ := small_ok h2
        obtain ⟨ys, p', e, r⟩ := ih p3 (xs ++ [⟨u, v⟩]) h3 (by simp; omega); refine ⟨ys, p', Ev.step (f := fun k => awardingbodylaw01_list.j1 k true xs ((n + 1 : Nat) : Int) false t p1) (fun k => ?_) (Ev.step (fun k => ?_) (Ev.bind (f := fun k (bt : Int × Int × Int) => if xs.length < 8796093022208 then (awardingbodylaw01_list.l0 k true (xs ++ [(⟨bt.1, bt.2.1⟩ : S35)]) (wrap64 (((n + 1 : Nat) : Int) - 1)) t bt.2.2) else none) e3 (Ev.congr (fun k => by rw [if_pos (by omega), hw]) e))), r⟩
        · simp only [awardingbodylaw01_list.l0]
          rw [if_pos (by omega), if_pos trivial, e1, Option.bind_some]
        · simp only [awardingbodylaw01_list.j1]
          rw [if_neg (by simp), e2, Option.bind_some, if_pos hc]
      · obtain ⟨u, v, p3, e3, h3, _⟩ := ratio_ok h2
        obtain ⟨ys, p', e, r⟩ := ih p3 (xs ++ [⟨u, v⟩]) h3 (by simp; omega); refine ⟨ys, p', Ev.step (f := fun k => awardingbodylaw01_list.j1 k true xs ((n + 1 : Nat) : Int) false t p1) (fun k => ?_) (Ev.step (fun k => ?_) (Ev.bind (f := fun k (bt : Int × Int × Int) => if xs.length < 8796093022208 then (awardingbodylaw01_list.l0 k true (xs ++ [(⟨bt.1, bt.2.1⟩ : S35)]) (wrap64 (((n + 1 : Nat) : Int) - 1)) t bt.2.2) else none) e3 (Ev.congr (fun k => by rw [if_pos (by omega), hw]) e))), r⟩
        · simp only [awardingbodylaw01_list.l0]
          rw [if_pos (by omega), if_pos trivial, e1, Option.bind_some]
        · simp only [awardingbodylaw01_list.j1]
          rw [if_neg (by simp), e2, Option.bind_some, if_neg hc]
theorem list_ok {t : List Int} {p : Int} (h : TapeOk t p) : ∃ ys p', Ev (fun k => awardingbodylaw01_list.f k t p true) (ys, p') ∧ TapeOk t p' ∧ ys.length ≤ 6 := by
  obtain ⟨x, p1, e1, h1, x0, x1⟩ := next_ok (n := 7) h (by omega) (by unfold I64; omega); obtain ⟨m, rfl⟩ := Int.eq_ofNat_of_zero_le x0; obtain ⟨ys, p', e, r⟩ := list_l_ok m p1 [] h1 (by simp; omega); exact ⟨ys, p', Ev.congr (fun k => by unfold awardingbodylaw01_list.f; rw [e1, Option.bind_some]) e, r⟩
end Go.Proofs.Ytcbohbeipgcfhaa.Mth

/- The examples of the chapter: what every law asks beside its own matter. -/
namespace Go.Proofs.Ytcbohbeipgcfhaa.Mth
open Go.RowKit Go.Proofs.Ytcbohbeipgcfhaa.G Go.Proofs.Ytcbohbeipgcfhaa.Given Go.Proofs.YtcbohbeipgcfhaaW.PrintWords Go.Proofs.YtcbohbeipgcfhaaW.PrintLast Go.Proofs.YtcbohbeipgcfhaaW.PrintMore
theorem app_ex : ratio_Apportion.f 3 [5, 3, 0] = some ([2, 1, 0], 0) := by decide +kernel
theorem awake_ev : Ev (fun k => awardingbodylaw01_awake.f k) true := by
  have h := rnew_ev (a := 6) (b := -4) (by unfold I64; omega) (by unfold I64; omega); rw [show newR 6 (-4) = (-3, 2, 0) from by decide +kernel] at h; refine Ev.congr (fun k => by unfold awardingbodylaw01_awake.f; rfl) ?_; refine Ev.bind h ?_; refine ev_some (fun k => ?_); rw [app_ex]
  decide
/-- a law's last step: the chapter's examples -/
theorem awake_end : Ev (fun k => (awardingbodylaw01_awake.f k).bind fun t => some t) true := Ev.bind (f := fun _ t => some t) awake_ev (Ev.now _)
end Go.Proofs.Ytcbohbeipgcfhaa.Mth

/- RatioSumsAnyOrder: for every tape the sum of the drawn list and the sum of the list in the drawn order are the same. -/
namespace Go.Proofs.Ytcbohbeipgcfhaa.Pure
open Go.RowKit Go.Proofs.Ytcbohbeipgcfhaa.G Go.Proofs.Ytcbohbeipgcfhaa.Mth Go.Proofs.YtcbohbeipgcfhaaW.PrintWords Go.Proofs.YtcbohbeipgcfhaaW.PrintLast
set_option linter.unusedVariables false
theorem ao_loop (l : List S35) (os : List Int) (ho : os.Perm ((List.range l.length).map fun (k : Nat) => (k : Int))) (hl : l.length ≤ 1000) : ∀ (m i : Nat), m = os.length - i → i ≤ os.length →
    Ev (fun k => awardingbodylaw01_RatioSumsAnyOrder.l0 k l os ((os.take i).map fun j => rd_T35 l j) i) true := by
  (have hlen : os.length = l.length := by rw [ho.length_eq]; simp); intro m
  induction m with
  | zero =>
    intro i hm hi
    have hp : (os.map fun j => rd_T35 l j).Perm l := by
      refine (ho.map _).trans ?_; rw [List.map_map]; refine List.Perm.of_eq ?_; apply List.ext_getElem
      · simp
      · intro q h1 h2
        simp only [List.getElem_map, List.getElem_range, Function.comp_apply]; exact rd35 l q h2
    have ht : os.take i = os := List.take_of_length_le (by omega); rw [ht]; refine Ev.step (f := fun k => ((ratio_Sum.f k l).bind fun bt665 => ((ratio_Sum.f k (os.map fun j => rd_T35 l j)).bind fun bt669 => (if (bt665.1 == bt669.1 && (bt665.2.1 == bt669.2.1)) = true then (if bt665.2.2 = bt669.2.2 then ((awardingbodylaw01_awake.f k).bind fun t673 => (some t673)) else (some false)) else (some false))))) (fun k => ?_) (Ev.bind (rsum_ev l) (Ev.bind (rsum_ev _) ?_))
    · simp only [awardingbodylaw01_RatioSumsAnyOrder.l0]
      rw [if_neg (by omega)]
    rw [sumR_perm hp]; refine Ev.congr (fun k => ?_) awake_end; simp
  | succ m ih =>
    intro i hm hi; (have il : i < os.length := by omega); have hmem : os[i] ∈ ((List.range l.length).map fun (k : Nat) => (k : Int)) := ho.mem_iff.1 (List.getElem_mem il); obtain ⟨q, hq, hqe⟩ := List.mem_map.1 hmem; have hq2 : q < l.length := List.mem_range.1 hq
    have hrd : rd os (i : Int) = (q : Int) := by
      rw [hqe]; simp [rd, List.getElem?_eq_getElem il]
    refine Ev.step (fun k => ?_) (ih (i + 1) (by omega) (by omega)); simp only [awardingbodylaw01_RatioSumsAnyOrder.l0]; rw [if_pos (by omega), if_pos (by omega), hrd, if_pos (by omega), if_pos (by omega), if_pos (by rw [List.length_map, List.length_take]; omega), nx i (by omega)]; rw [List.take_succ_eq_append_getElem il, List.map_append, ← hqe]; rfl
theorem RatioSumsAnyOrder : awardingbodylaw01_RatioSumsAnyOrder.Pure := by
  intro l _ _ hl; obtain ⟨t, e0, h0⟩ := new_ok hl; obtain ⟨ys, p1, e1, h1, hy⟩ := list_ok h0; obtain ⟨os, p2, e2, h2, ho⟩ := order_ok ys.length (by omega) h1
  have h : Ev (fun k => awardingbodylaw01_RatioSumsAnyOrder.f k l) true := by
    refine Ev.congr (fun k => by unfold awardingbodylaw01_RatioSumsAnyOrder.f; rw [e0, Option.bind_some]) ?_; refine Ev.bind e1 ?_; refine Ev.bind e2 ?_; exact ao_loop ys os ho (by omega) os.length 0 (by omega) (by omega)
  obtain ⟨K, hK⟩ := h; exact ⟨K, hK K (Nat.le_refl _)⟩
end Go.Proofs.Ytcbohbeipgcfhaa.Pure
