/- Texts of this claim laid together: MathF, MathU. -/
import Derived.Test.YtcbohbeipgcfhaaZSun14
import Derived.Test.YtcbohbeipgcfhaaZSun15
import Derived.Test.YtcbohbeipgcfhaaZSun9
/- What reducing and adding signed magnitudes keep; the sum of the program; what Add tells. -/
namespace Go.Proofs.Ytcbohbeipgcfhaa.Mth
open Go.RowKit Go.Proofs.Ytcbohbeipgcfhaa.G Go.Proofs.Ytcbohbeipgcfhaa.Given Go.Proofs.YtcbohbeipgcfhaaW.PrintWords Go.Proofs.YtcbohbeipgcfhaaW.PrintLast Go.Proofs.YtcbohbeipgcfhaaW.PrintMore
set_option linter.unusedVariables false

theorem red_scale (s : Bool) (k n d : Nat) (hk : 0 < k) : red s (k * n) (k * d) = red s n d := by
  unfold red; rw [Nat.gcd_mul_left, Nat.mul_div_mul_left _ _ hk, Nat.mul_div_mul_left _ _ hk]
theorem red_zero (s : Bool) (d : Nat) (hd : 0 < d) : red s 0 d = (0, 1, 0) := by
  unfold red; rw [Nat.gcd_zero_left, Nat.zero_div, Nat.div_self hd]
  cases s <;> rfl
theorem red_coprime (s : Bool) (n d : Nat) (h : Nat.gcd n d = 1) (hd : 1152921504606846976 < d) : red s n d = (0, 0, 6) := by
  unfold red; rw [h, Nat.div_one, Nat.div_one, if_neg (by omega)]
theorem tot_scale (k : Nat) (hk : 0 < k) (x : Bool) (a : Nat) (y : Bool) (b : Nat) : tot x (k * a) y (k * b) = ((tot x a y b).1, k * (tot x a y b).2) := by
  by_cases h : x = y
  · rw [tot_same _ _ h, tot_same _ _ h, Nat.mul_add]
  · by_cases hl : b ≤ a
    · rw [tot_ge h hl, tot_ge h (Nat.mul_le_mul_left k hl), Nat.mul_sub]
    · rw [tot_lt h hl, tot_lt h (fun c => hl (Nat.le_of_mul_le_mul_left c hk)), Nat.mul_sub]
theorem tot_le (x : Bool) (a : Nat) (y : Bool) (b : Nat) : (tot x a y b).2 ≤ a + b := by
  by_cases h : x = y
  · rw [tot_same _ _ h]; exact Nat.le_refl _
  · by_cases hl : b ≤ a
    · rw [tot_ge h hl]; show a - b ≤ a + b; omega
    · rw [tot_lt h hl]; show b - a ≤ a + b; omega
/-- what divides the sum and one part divides the other part -/
theorem tot_dvd_left {k : Nat} {x : Bool} {a : Nat} {y : Bool} {b : Nat} (ht : k ∣ (tot x a y b).2) (hb : k ∣ b) : k ∣ a := by
  by_cases h : x = y
  · rw [tot_same _ _ h] at ht; exact (Nat.dvd_add_left hb).1 ht
  · by_cases hl : b ≤ a
    · rw [tot_ge h hl] at ht
      have ht' : k ∣ a - b := ht; have := Nat.dvd_add ht' hb
      rwa [Nat.sub_add_cancel hl] at this
    · rw [tot_lt h hl] at ht
      have ht' : k ∣ b - a := ht; have := Nat.dvd_sub hb ht'
      rwa [show b - (b - a) = a from by omega] at this
theorem tot_dvd_right {k : Nat} {x : Bool} {a : Nat} {y : Bool} {b : Nat} (ht : k ∣ (tot x a y b).2) (ha : k ∣ a) : k ∣ b := by
  by_cases h : x = y
  · rw [tot_same _ _ h] at ht; exact (Nat.dvd_add_right ha).1 ht
  · by_cases hl : b ≤ a
    · rw [tot_ge h hl] at ht
      have ht' : k ∣ a - b := ht; have := Nat.dvd_sub ha ht'
      rwa [show a - (a - b) = b from by omega] at this
    · rw [tot_lt h hl] at ht
      have ht' : k ∣ b - a := ht; have := Nat.dvd_add ht' ha
      rwa [Nat.sub_add_cancel (by omega)] at this
theorem coprime_part {A q p : Nat} (h1 : Nat.gcd p A = 1) (h2 : Nat.gcd p q = 1) {k : Nat} (hk : k ∣ p) (hd : k ∣ A * q) : k = 1 := by
  have h3 : Nat.gcd k A = 1 := Nat.Coprime.coprime_dvd_left hk h1; have h4 : k ∣ q := Nat.Coprime.dvd_of_dvd_mul_left h3 hd; have := Nat.dvd_gcd hk h4; rw [h2] at this; exact Nat.dvd_one.1 this

theorem add64_eq (x y z : Nat) (hz : z ≤ 1) : bits_Add64.f x y z = some ((((x + y + z) % 18446744073709551616 : Nat) : Int), (((x + y + z) / 18446744073709551616 : Nat) : Int)) := by
  unfold bits_Add64.f; rw [if_pos (by omega)]; rfl
theorem wplus_ev (x : Bool) (a : Nat) (y : Bool) (b : Nat) (h : a + b < 340282366920938463463374607431768211456) :
    Ev (fun k => ratio_wide_plus.f k x (hi a) (lo a) y (hi b) (lo b)) ((tot x a y b).1, hi (tot x a y b).2, lo (tot x a y b).2) := by
  have hm (a b : Nat) (hab : b ≤ a) (ha : a < 340282366920938463463374607431768211456) (z : Bool) : ((bits_Sub64.f (lo a) (lo b) 0).bind fun bt545 => ((bits_Sub64.f (hi a) (hi b) bt545.2).bind fun bt547 => some (z, bt547.1, bt545.1))) = some (z, hi (a - b), lo (a - b)) := by
    have := minus_eq a b ha (by omega); rw [show (a + 340282366920938463463374607431768211456 - b) % 340282366920938463463374607431768211456 = a - b from by omega] at this; unfold r1_Minus.f at this
    cases e1 : bits_Sub64.f (lo a) (lo b) 0 with
    | none => rw [e1] at this; simp at this
    | some v =>
      rw [e1, Option.bind_some] at this; rw [Option.bind_some]
      cases e2 : bits_Sub64.f (hi a) (hi b) v.2 with
      | none => rw [e2] at this; simp at this
      | some u =>
        rw [e2, Option.bind_some] at this; rw [Option.bind_some]; simp only [Option.some.injEq, Prod.mk.injEq] at this; rw [this.1, this.2]
  by_cases hxy : x = y
  · rw [tot_same a b hxy]
    refine Ev.congr (fun k => ?_) (Ev.now _); have := plus_eq a b (by omega) (by omega); rw [Nat.mod_eq_of_lt h] at this; unfold r1_Plus.f at this; unfold ratio_wide_plus.f; rw [if_pos (by simpa using hxy)]
    cases e1 : bits_Add64.f (lo a) (lo b) 0 with
    | none => rw [e1] at this; simp at this
    | some v =>
      rw [e1, Option.bind_some] at this; rw [Option.bind_some]
      cases e2 : bits_Add64.f (hi a) (hi b) v.2 with
      | none => rw [e2] at this; simp at this
      | some u =>
        rw [e2, Option.bind_some] at this; rw [Option.bind_some]; simp only [Option.some.injEq, Prod.mk.injEq] at this; rw [this.1, this.2]
  · refine Ev.congr (fun k => by unfold ratio_wide_plus.f; rw [if_neg (by simpa using hxy)]) ?_
    refine Ev.bind (wcompare_ev x y a b) ?_; refine Ev.congr (fun k => ?_) (Ev.now _); unfold cmpN
    by_cases hl : b ≤ a
    · rw [tot_ge hxy hl, if_neg (by repeat' (first | omega | split)), hm a b hl (by omega)]
    · rw [tot_lt hxy hl, if_pos (by rw [if_pos (by omega)]; omega), hm b a (by omega) (by omega)]

/-- what Add tells -/
def addR (a b c d : Int) : Int × Int × Int :=
  if okR a b ∧ okR c d then red (tot (decide (a < 0)) (a.natAbs * d.natAbs) (decide (c < 0)) (c.natAbs * b.natAbs)).1 (tot (decide (a < 0)) (a.natAbs * d.natAbs) (decide (c < 0)) (c.natAbs * b.natAbs)).2 (b.natAbs * d.natAbs) else (0, 0, 1)

/-- the heart: with the common divisor of the denominators taken out, only a divisor of it cancels -/
theorem add_core (s : Bool) (g p q t c : Nat) (hg : 0 < g) (hp : 0 < p) (hq : 0 < q) (hc : c = Nat.gcd g t) (h1 : Nat.gcd t p = 1) (h2 : Nat.gcd t q = 1) :
    red s (g * t) (g * p * (g * q)) = red s (t / c) (g / c * p * q) ∧ Nat.gcd (t / c) (g / c * p * q) = 1 := by
  (have hc0 : 0 < c := by rw [hc]; exact Nat.gcd_pos_of_pos_left _ hg); (have ct : c ∣ t := by rw [hc]; exact Nat.gcd_dvd_right _ _); (have cg : c ∣ g := by rw [hc]; exact Nat.gcd_dvd_left _ _); constructor
  · rw [show g * p * (g * q) = g * (g * p * q) from by rw [Nat.mul_left_comm (g * p) g q], red_scale s g _ _ hg]
    obtain ⟨u, hu⟩ := ct; obtain ⟨v, hv⟩ := cg; rw [hu, hv, Nat.mul_div_cancel_left u hc0, Nat.mul_div_cancel_left v hc0, show c * v * p * q = c * (v * p * q) from by simp only [Nat.mul_assoc], red_scale s c _ _ hc0]
  · have e1 : Nat.Coprime (t / c) (g / c) := by
      rw [hc, Nat.gcd_comm g t]; exact Nat.coprime_div_gcd_div_gcd (by rw [Nat.gcd_comm, ← hc]; exact hc0)
    have e2 : Nat.Coprime (t / c) p := Nat.Coprime.coprime_dvd_left (Nat.div_dvd_of_dvd ct) h1; have e3 : Nat.Coprime (t / c) q := Nat.Coprime.coprime_dvd_left (Nat.div_dvd_of_dvd ct) h2; exact Nat.Coprime.mul_right (Nat.Coprime.mul_right e1 e2) e3
end Go.Proofs.Ytcbohbeipgcfhaa.Mth

/- Sum of the program tells what sumR tells, for all lists. -/
namespace Go.Proofs.Ytcbohbeipgcfhaa.Mth
open Go.RowKit Go.Proofs.Ytcbohbeipgcfhaa.G Go.Proofs.Ytcbohbeipgcfhaa.Given Go.Proofs.YtcbohbeipgcfhaaW.PrintWords Go.Proofs.YtcbohbeipgcfhaaW.PrintLast Go.Proofs.YtcbohbeipgcfhaaW.PrintMore
set_option linter.unusedVariables false

/-- the least common multiple of the denominators, if it fits -/
def lcmF : Nat → List S35 → Option Nat
  | C, [] => some C
  | C, a :: l => if C / Nat.gcd C a.f1.natAbs * a.f1.natAbs ≤ 1152921504606846976 then lcmF (C / Nat.gcd C a.f1.natAbs * a.f1.natAbs) l else none
/-- the sum of the numerators over the denominator C -/
def totF (C : Nat) : Bool → Nat → List S35 → Bool × Nat
  | s, n, [] => (s, n)
  | s, n, a :: l => totF C (tot s n (decide (a.f0 < 0)) (a.f0.natAbs * (C / a.f1.natAbs))).1 (tot s n (decide (a.f0 < 0)) (a.f0.natAbs * (C / a.f1.natAbs))).2 l
def okL (l : List S35) : Bool := l.all fun a => decide (okR a.f0 a.f1)
/-- what Sum tells -/
def sumR (l : List S35) : Int × Int × Int :=
  if 100 < l.length then (0, 0, 3) else if okL l = true then (match lcmF 1 l with | none => (0, 0, 6) | some C => red (totF C false 0 l).1 (totF C false 0 l).2 C) else (0, 0, 1)

theorem rd35 (l : List S35) (i : Nat) (h : i < l.length) : rd_T35 l (i : Int) = l[i] := by
  simp [rd_T35, List.getElem?_eq_getElem h]
theorem okL_get {l : List S35} (h : okL l = true) (i : Nat) (hi : i < l.length) : okR l[i].f0 l[i].f1 := by
  have := List.all_eq_true.1 h l[i] (List.getElem_mem hi); exact of_decide_eq_true this
theorem nx (i : Nat) (h : i ≤ 1000) : wrap64 ((i : Int) + 1) = ((i + 1 : Nat) : Int) := by unfold wrap64; omega

theorem rsum2 {l : List S35} (h100 : l.length ≤ 100) (hok : okL l = true) (D : Nat) (D0 : 0 < D) (D1 : D ≤ 1152921504606846976) :
    ∀ (m i : Nat) (s : Bool) (n : Nat), m = l.length - i → i ≤ l.length → n ≤ i * 1329227995784915872903807060280344576 →
      Ev (fun k => ratio_Sum.l2 k D l l.length i s (hi n) (lo n)) (red (totF D s n (l.drop i)).1 (totF D s n (l.drop i)).2 D) := by
  intro m
  induction m with
  | zero =>
    intro i s n hm hi' hn; rw [List.drop_eq_nil_of_le (by omega)]; refine Ev.step (fun k => ?_) (Ev.bind (f := fun _ (t : Int × Int × Int) => some (t.1, t.2.1, t.2.2)) (lowest_ev s n D (by omega) (by omega) D0) (Ev.now _)); simp only [ratio_Sum.l2]; rw [if_neg (by omega)]
  | succ m ih =>
    intro i s n hm hi' hn; (have il : i < l.length := by omega); have ho := okL_get hok i il; rw [List.drop_eq_getElem_cons il]; obtain ⟨ia, ib, b1, la, lb⟩ := ok_small ho; have wb := wrap_abs b1 lb; have q1 : D / l[i].f1.natAbs ≤ 1152921504606846976 := Nat.le_trans (Nat.div_le_self _ _) D1; have ht := times_eq ia (D / l[i].f1.natAbs) (by omega); have hm2 : l[i].f0.natAbs * (D / l[i].f1.natAbs) ≤ 1329227995784915872903807060280344576 := Nat.le_trans (Nat.mul_le_mul la q1) (by decide)
    have e5 : IntKind.u64.wrap (Int.tdiv (D : Int) (l[i].f1.natAbs : Int)) = ((D / l[i].f1.natAbs : Nat) : Int) := by
      rw [show Int.tdiv (D : Int) (l[i].f1.natAbs : Int) = ((D / l[i].f1.natAbs : Nat) : Int) from rfl, wrapN _ (by omega)]
    simp only [totF]; obtain ⟨x, hx⟩ : ∃ x, l[i].f0.natAbs * (D / l[i].f1.natAbs) = x := ⟨_, rfl⟩; rw [hx] at ht hm2 ⊢; have pl := wplus_ev s n (decide (l[i].f0 < 0)) x (by omega); have hle := tot_le s n (decide (l[i].f0 < 0)) x; refine Ev.step (f := fun k => (ratio_wide_plus.f k s (hi n) (lo n) (decide (l[i].f0 < 0)) (hi x) (lo x)).bind fun bt568 => (ratio_Sum.l2 k D l l.length ((i + 1 : Nat) : Int) bt568.1 bt568.2.1 bt568.2.2)) (fun k => ?_) (Ev.bind pl (ih (i + 1) _ _ (by omega) (by omega) (by omega))); simp only [ratio_Sum.l2]; rw [if_pos (by omega), if_pos (by omega), if_pos (by omega), rd35 l i il, wb, if_neg (by omega), e5, ht, Option.bind_some, nx i (by omega)]

theorem rsum1 {l : List S35} (h100 : l.length ≤ 100) (hok : okL l = true) (F : Nat → Int × Int × Int)
    (hF : ∀ D : Nat, 0 < D → D ≤ 1152921504606846976 → Ev (fun k => ratio_Sum.l2 k D l l.length 0 false 0 0) (F D)) :
    ∀ (m i C : Nat), m = l.length - i → i ≤ l.length → 0 < C → C ≤ 1152921504606846976 →
      Ev (fun k => ratio_Sum.l1 k l C l l.length i) (match lcmF C (l.drop i) with | none => (0, 0, 6) | some D => F D) := by
  intro m
  induction m with
  | zero =>
    intro i C hm hi' C0 C1; rw [List.drop_eq_nil_of_le (by omega)]; refine Ev.step (fun k => ?_) (hF C C0 C1); simp only [ratio_Sum.l1]; rw [if_neg (by omega)]
  | succ m ih =>
    intro i C hm hi' C0 C1; (have il : i < l.length := by omega); have ho := okL_get hok i il; rw [List.drop_eq_getElem_cons il]; obtain ⟨ia, ib, b1, la, lb⟩ := ok_small ho; have wb := wrap_abs b1 lb; have hg := gcd_ev l[i].f1.natAbs C; have g0 : 0 < Nat.gcd C l[i].f1.natAbs := Nat.gcd_pos_of_pos_left _ C0; have gle := Nat.gcd_le_left l[i].f1.natAbs C0; have q1 := Nat.div_le_self C (Nat.gcd C l[i].f1.natAbs); have q0 : 0 < C / Nat.gcd C l[i].f1.natAbs := Nat.div_pos gle g0
    have e5 : IntKind.u64.wrap (Int.tdiv (C : Int) ((Nat.gcd C l[i].f1.natAbs : Nat) : Int)) = ((C / Nat.gcd C l[i].f1.natAbs : Nat) : Int) := by
      rw [show Int.tdiv (C : Int) ((Nat.gcd C l[i].f1.natAbs : Nat) : Int) = ((C / Nat.gcd C l[i].f1.natAbs : Nat) : Int) from rfl, wrapN _ (by omega)]
    have hmul := mul64_eq (C / Nat.gcd C l[i].f1.natAbs) l[i].f1.natAbs (by omega) (by omega); have x0 : 0 < C / Nat.gcd C l[i].f1.natAbs * l[i].f1.natAbs := Nat.mul_pos q0 (by omega); simp only [lcmF]; obtain ⟨x, hx⟩ : ∃ x, C / Nat.gcd C l[i].f1.natAbs * l[i].f1.natAbs = x := ⟨_, rfl⟩; rw [hx] at hmul x0 ⊢; refine Ev.step (f := fun k => (ratio_gcd.f k (C : Int) (l[i].f1.natAbs : Int)).bind fun t559 => (if t559 = 0 then (none) else ((bits_Mul64.f (IntKind.u64.wrap (Int.tdiv (C : Int) t559)) (l[i].f1.natAbs : Int)).bind fun bt560 => (if bt560.1 = 0 then (if bt560.2 > 1152921504606846976 then (some (0, 0, 6)) else (ratio_Sum.l1 k l bt560.2 l l.length ((i + 1 : Nat) : Int))) else (some (0, 0, 6)))))) (fun k => ?_) ?_
    · simp only [ratio_Sum.l1]
      rw [if_pos (by omega), if_pos (by omega), if_pos (by omega), rd35 l i il, wb, nx i (by omega)]
    refine Ev.bind hg ?_; refine Ev.congr (fun k => by rw [if_neg (by omega), e5, hmul, Option.bind_some]) ?_
    by_cases hs : x ≤ 1152921504606846976
    · rw [if_pos hs, hi_small (by omega), lo_small (by omega)]
      refine Ev.congr (fun k => by rw [if_pos rfl, if_neg (by omega)]) (ih (i + 1) x (by omega) (by omega) x0 hs)
    · rw [if_neg hs]
      refine Ev.congr (fun k => ?_) (Ev.now _)
      by_cases h2 : hi x = 0
      · rw [if_pos h2, if_pos (by unfold hi at h2; unfold lo; omega)]
      · rw [if_neg h2]

theorem rsum0 {l : List S35} (h100 : l.length ≤ 100) (R : Int × Int × Int) (hR : okL l = true → Ev (fun k => ratio_Sum.l1 k l 1 l l.length 0) R) :
    ∀ (m i : Nat), m = l.length - i → i ≤ l.length → okL (l.take i) = true → Ev (fun k => ratio_Sum.l0 k l l l.length i) (if okL l = true then R else (0, 0, 1)) := by
  intro m
  induction m with
  | zero =>
    intro i hm hi' ht; rw [List.take_of_length_le (by omega)] at ht; rw [if_pos ht]; refine Ev.step (fun k => ?_) (hR ht); simp only [ratio_Sum.l0]; rw [if_neg (by omega)]
  | succ m ih =>
    intro i hm hi' ht; (have il : i < l.length := by omega); refine Ev.step (f := fun k => (ratio_Valid.f k l[i].f0 l[i].f1).bind fun t556 => (if t556 = true then (ratio_Sum.l0 k l l l.length ((i + 1 : Nat) : Int)) else (some (0, 0, 1)))) (fun k => ?_) (Ev.bind (rvalid_ev l[i].f0 l[i].f1) ?_)
    · simp only [ratio_Sum.l0]
      rw [if_pos (by omega), if_pos (by omega), if_pos (by omega), rd35 l i il, nx i (by omega)]
    by_cases ho : okR l[i].f0 l[i].f1
    · refine Ev.congr (fun k => by rw [if_pos (decide_eq_true ho)]) (ih (i + 1) (by omega) (by omega) ?_)
      unfold okL at ht ⊢; rw [List.take_succ_eq_append_getElem il, List.all_append, ht]; simp [ho]
    · have : okL l = false := by
        unfold okL; rw [List.all_eq_false]; exact ⟨l[i], List.getElem_mem il, by simpa using ho⟩
      rw [this, if_neg (by simp)]; exact Ev.congr (fun k => by rw [if_neg (by simpa using ho)]) (Ev.now _)
theorem rsum_ev (l : List S35) : Ev (fun k => ratio_Sum.f k l) (sumR l) := by
  unfold sumR
  by_cases h : 100 < l.length
  · rw [if_pos h]
    exact Ev.congr (fun k => by unfold ratio_Sum.f; rw [if_pos (by omega)]) (Ev.now _)
  · rw [if_neg h]
    refine Ev.congr (fun k => by unfold ratio_Sum.f; rw [if_neg (by omega)]) ?_; refine rsum0 (by omega) _ (fun hok => ?_) l.length 0 (by omega) (by omega) rfl; refine rsum1 (by omega) hok (fun D => red (totF D false 0 l).1 (totF D false 0 l).2 D) (fun D D0 D1 => ?_) l.length 0 1 (by omega) (by omega) (by omega) (by omega); exact rsum2 (by omega) hok D D0 D1 l.length 0 false 0 (by omega) (by omega) (by omega)
end Go.Proofs.Ytcbohbeipgcfhaa.Mth
