/- Texts of this claim laid together: MathF, MathM, MathN, Gf60. -/
import Derived.Test.YtcbohbeipgcfhaaShortC
import Derived.Test.YtcbohbeipgcfhaaZMun14
import Derived.Test.YtcbohbeipgcfhaaZMun15
import Derived.Test.YtcbohbeipgcfhaaZMun9
import Derived.Test.YtcbohbeipgcfhaaG0
import Derived.Test.YtcbohbeipgcfhaaZMun12
import Derived.Test.YtcbohbeipgcfhaaZMun3
/- What reducing and adding signed magnitudes keep; the sum of the program; what Add tells. -/
namespace Go.Proofs.Ytcbohbeipgcfhaa.Mth
open Go.RowKit Go.Proofs.Ytcbohbeipgcfhaa.G Go.Proofs.Ytcbohbeipgcfhaa.Given Go.Proofs.YtcbohbeipgcfhaaW.PrintWords Go.Proofs.YtcbohbeipgcfhaaW.PrintLast Go.Proofs.YtcbohbeipgcfhaaW.PrintMore
set_option linter.unusedVariables false

theorem red_scale (s : Bool) (k n d : Nat) (hk : 0 < k) : red s (k * n) (k * d) = red s n d := by
  unfold red; rw [Nat.gcd_mul_left, Nat.mul_div_mul_left _ _ hk, Nat.mul_div_mul_left _ _ hk]
theorem red_zero (s : Bool) (d : Nat) (hd : 0 < d) : red s 0 d = (0, 1, 0) := by
  unfold red; rw [Nat.gcd_zero_left, Nat.zero_div, Nat.div_self hd]
  cases s <;> rfl
theorem red_coprime (s : Bool) (n d : Nat) (h : Nat.gcd n d = 1) (hd : 1152921504606846976 < d) : red s n d = (0, 0, 6) := by
  unfold red; rw [h, Nat.div_one, Nat.div_one, if_neg (by omega)]
theorem tot_scale (k : Nat) (hk : 0 < k) (x : Bool) (a : Nat) (y : Bool) (b : Nat) : tot x (k * a) y (k * b) = ((tot x a y b).1, k * (tot x a y b).2) := by
  by_cases h : x = y
  · rw [tot_same _ _ h, tot_same _ _ h, Nat.mul_add]
  · by_cases hl : b ≤ a
    · rw [tot_ge h hl, tot_ge h (Nat.mul_le_mul_left k hl), Nat.mul_sub]
    · rw [tot_lt h hl, tot_lt h (fun c => hl (Nat.le_of_mul_le_mul_left c hk)), Nat.mul_sub]
theorem tot_le (x : Bool) (a : Nat) (y : Bool) (b : Nat) : (tot x a y b).2 ≤ a + b := by
  by_cases h : x = y
  · rw [tot_same _ _ h]; exact Nat.le_refl _
  · by_cases hl : b ≤ a
    · rw [tot_ge h hl]; show a - b ≤ a + b; omega
    · rw [tot_lt h hl]; show b - a ≤ a + b; omega
/-- what divides the sum and one part divides the other part -/
theorem tot_dvd_left {k : Nat} {x : Bool} {a : Nat} {y : Bool} {b : Nat} (ht : k ∣ (tot x a y b).2) (hb : k ∣ b) : k ∣ a := by
  by_cases h : x = y
  · rw [tot_same _ _ h] at ht; exact (Nat.dvd_add_left hb).1 ht
  · by_cases hl : b ≤ a
    · rw [tot_ge h hl] at ht
      have ht' : k ∣ a - b := ht; have := Nat.dvd_add ht' hb
      rwa [Nat.sub_add_cancel hl] at this
    · rw [tot_lt h hl] at ht
      have ht' : k ∣ b - a := ht; have := Nat.dvd_sub hb ht'
      rwa [show b - (b - a) = a from by omega] at this
theorem tot_dvd_right {k : Nat} {x : Bool} {a : Nat} {y : Bool} {b : Nat} (ht : k ∣ (tot x a y b).2) (ha : k ∣ a) : k ∣ b := by
  by_cases h : x = y
  · rw [tot_same _ _ h] at ht; exact (Nat.dvd_add_right ha).1 ht
  · by_cases hl : b ≤ a
    · rw [tot_ge h hl] at ht
      have ht' : k ∣ a - b := ht; have := Nat.dvd_sub ha ht'
      rwa [show a - (a - b) = b from by omega] at this
    · rw [tot_lt h hl] at ht
      have ht' : k ∣ b - a := ht; have := Nat.dvd_add ht' ha
      rwa [Nat.sub_add_cancel (by omega)] at this
theorem coprime_part {A q p : Nat} (h1 : Nat.gcd p A = 1) (h2 : Nat.gcd p q = 1) {k : Nat} (hk : k ∣ p) (hd : k ∣ A * q) : k = 1 := by
  have h3 : Nat.gcd k A = 1 := Nat.Coprime.coprime_dvd_left hk h1; have h4 : k ∣ q := Nat.Coprime.dvd_of_dvd_mul_left h3 hd; have := Nat.dvd_gcd hk h4; rw [h2] at this; exact Nat.dvd_one.1 this

theorem add64_eq (x y z : Nat) (hz : z ≤ 1) : bits_Add64.f x y z = some ((((x + y + z) % 18446744073709551616 : Nat) : Int), (((x + y + z) / 18446744073709551616 : Nat) : Int)) := by
  unfold bits_Add64.f; rw [if_pos (by omega)]; rfl
theorem wplus_ev (x : Bool) (a : Nat) (y : Bool) (b : Nat) (h : a + b < 340282366920938463463374607431768211456) :
    Ev (fun k => ratio_wide_plus.f k x (hi a) (lo a) y (hi b) (lo b)) ((tot x a y b).1, hi (tot x a y b).2, lo (tot x a y b).2) := by
  have hm (a b : Nat) (hab : b ≤ a) (ha : a < 340282366920938463463374607431768211456) (z : Bool) : ((bits_Sub64.f (lo a) (lo b) 0).bind fun bt545 => ((bits_Sub64.f (hi a) (hi b) bt545.2).bind fun bt547 => some (z, bt547.1, bt545.1))) = some (z, hi (a - b), lo (a - b)) := by
    have := minus_eq a b ha (by omega); rw [show (a + 340282366920938463463374607431768211456 - b) % 340282366920938463463374607431768211456 = a - b from by omega] at this; unfold r1_Minus.f at this
    cases e1 : bits_Sub64.f (lo a) (lo b) 0 with
    | none => rw [e1] at this; simp at this
    | some v =>
      rw [e1, Option.bind_some] at this; rw [Option.bind_some]
      cases e2 : bits_Sub64.f (hi a) (hi b) v.2 with
      | none => rw [e2] at this; simp at this
      | some u =>
        rw [e2, Option.bind_some] at this; rw [Option.bind_some]; simp only [Option.some.injEq, Prod.mk.injEq] at this; rw [this.1, this.2]
  by_cases hxy : x = y
  · rw [tot_same a b hxy]
    refine Ev.congr (fun k => ?_) (Ev.now _); have := plus_eq a b (by omega) (by omega); rw [Nat.mod_eq_of_lt h] at this; unfold r1_Plus.f at this; unfold ratio_wide_plus.f; rw [if_pos (by simpa using hxy)]
    cases e1 : bits_Add64.f (lo a) (lo b) 0 with
    | none => rw [e1] at this; simp at this
    | some v =>
      rw [e1, Option.bind_some] at this; rw [Option.bind_some]
      cases e2 : bits_Add64.f (hi a) (hi b) v.2 with
      | none => rw [e2] at this; simp at this
      | some u =>
        rw [e2, Option.bind_some] at this; rw [Option.bind_some]; simp only [Option.some.injEq, Prod.mk.injEq] at this; rw [this.1, this.2]
  · refine Ev.congr (fun k => by unfold ratio_wide_plus.f; rw [if_neg (by simpa using hxy)]) ?_
    refine Ev.bind (wcompare_ev x y a b) ?_; refine Ev.congr (fun k => ?_) (Ev.now _); unfold cmpN
    by_cases hl : b ≤ a
    · rw [tot_ge hxy hl, if_neg (by repeat' (first | omega | split)), hm a b hl (by omega)]
    · rw [tot_lt hxy hl, if_pos (by rw [if_pos (by omega)]; omega), hm b a (by omega) (by omega)]

/-- what Add tells -/
def addR (a b c d : Int) : Int × Int × Int :=
  if okR a b ∧ okR c d then red (tot (decide (a < 0)) (a.natAbs * d.natAbs) (decide (c < 0)) (c.natAbs * b.natAbs)).1 (tot (decide (a < 0)) (a.natAbs * d.natAbs) (decide (c < 0)) (c.natAbs * b.natAbs)).2 (b.natAbs * d.natAbs) else (0, 0, 1)

/-- the heart: with the common divisor of the denominators taken out, only a divisor of it cancels -/
theorem add_core (s : Bool) (g p q t c : Nat) (hg : 0 < g) (hp : 0 < p) (hq : 0 < q) (hc : c = Nat.gcd g t) (h1 : Nat.gcd t p = 1) (h2 : Nat.gcd t q = 1) :
    red s (g * t) (g * p * (g * q)) = red s (t / c) (g / c * p * q) ∧ Nat.gcd (t / c) (g / c * p * q) = 1 := by
  (have hc0 : 0 < c := by rw [hc]; exact Nat.gcd_pos_of_pos_left _ hg); (have ct : c ∣ t := by rw [hc]; exact Nat.gcd_dvd_right _ _); (have cg : c ∣ g := by rw [hc]; exact Nat.gcd_dvd_left _ _); constructor
  · rw [show g * p * (g * q) = g * (g * p * q) from by rw [Nat.mul_left_comm (g * p) g q], red_scale s g _ _ hg]
    obtain ⟨u, hu⟩ := ct; obtain ⟨v, hv⟩ := cg; rw [hu, hv, Nat.mul_div_cancel_left u hc0, Nat.mul_div_cancel_left v hc0, show c * v * p * q = c * (v * p * q) from by simp only [Nat.mul_assoc], red_scale s c _ _ hc0]
  · have e1 : Nat.Coprime (t / c) (g / c) := by
      rw [hc, Nat.gcd_comm g t]; exact Nat.coprime_div_gcd_div_gcd (by rw [Nat.gcd_comm, ← hc]; exact hc0)
    have e2 : Nat.Coprime (t / c) p := Nat.Coprime.coprime_dvd_left (Nat.div_dvd_of_dvd ct) h1; have e3 : Nat.Coprime (t / c) q := Nat.Coprime.coprime_dvd_left (Nat.div_dvd_of_dvd ct) h2; exact Nat.Coprime.mul_right (Nat.Coprime.mul_right e1 e2) e3
end Go.Proofs.Ytcbohbeipgcfhaa.Mth

/- What Mul and Div tell; what cancels in a product. -/
namespace Go.Proofs.Ytcbohbeipgcfhaa.Mth
open Go.RowKit Go.Proofs.Ytcbohbeipgcfhaa.G Go.Proofs.Ytcbohbeipgcfhaa.Given Go.Proofs.YtcbohbeipgcfhaaW.PrintWords Go.Proofs.YtcbohbeipgcfhaaW.PrintLast Go.Proofs.YtcbohbeipgcfhaaW.PrintMore
set_option linter.unusedVariables false
/-- what Mul and Div tell -/
def mulR (a b c d : Int) : Int × Int × Int :=
  if okR a b ∧ okR c d then red ((decide (a < 0)) != (decide (c < 0))) (a.natAbs * c.natAbs) (b.natAbs * d.natAbs) else (0, 0, 1)
def divR (a b c d : Int) : Int × Int × Int :=
  if okR a b ∧ okR c d then (if c = 0 then (0, 0, 2) else red ((decide (a < 0)) != (decide (c < 0))) (a.natAbs * d.natAbs) (b.natAbs * c.natAbs)) else (0, 0, 1)
/-- with the divisors taken out crosswise nothing more cancels -/
theorem mul_core (s : Bool) (A B C D g h : Nat) (hB : 0 < B) (hD : 0 < D) (hg : g = Nat.gcd A D) (hh : h = Nat.gcd C B) (h1 : Nat.gcd A B = 1) (h2 : Nat.gcd C D = 1) :
    red s (A * C) (B * D) = red s (A / g * (C / h)) (B / h * (D / g)) ∧ Nat.gcd (A / g * (C / h)) (B / h * (D / g)) = 1 := by
  (have g0 : 0 < g := by rw [hg]; exact Nat.gcd_pos_of_pos_right _ hD); (have h0 : 0 < h := by rw [hh]; exact Nat.gcd_pos_of_pos_right _ hB); (have gA : g ∣ A := by rw [hg]; exact Nat.gcd_dvd_left _ _); (have gD : g ∣ D := by rw [hg]; exact Nat.gcd_dvd_right _ _); (have hC : h ∣ C := by rw [hh]; exact Nat.gcd_dvd_left _ _); (have hB' : h ∣ B := by rw [hh]; exact Nat.gcd_dvd_right _ _); constructor
  · have e1 := Nat.mul_div_cancel' gA
    have e2 := Nat.mul_div_cancel' gD; have e3 := Nat.mul_div_cancel' hC; have e4 := Nat.mul_div_cancel' hB'
    have e5 : A * C = g * h * (A / g * (C / h)) := by
      conv => lhs; rw [← e1, ← e3]
      simp only [Nat.mul_comm, Nat.mul_left_comm]
    have e6 : B * D = g * h * (B / h * (D / g)) := by
      conv => lhs; rw [← e4, ← e2]
      simp only [Nat.mul_comm, Nat.mul_left_comm]
    rw [e5, e6, red_scale s _ _ _ (Nat.mul_pos g0 h0)]
  · have c1 : Nat.Coprime (A / g) (D / g) := by rw [hg]; exact Nat.coprime_div_gcd_div_gcd (by rw [← hg]; exact g0)
    (have c2 : Nat.Coprime (C / h) (B / h) := by rw [hh]; exact Nat.coprime_div_gcd_div_gcd (by rw [← hh]; exact h0)); have c3 : Nat.Coprime (A / g) (B / h) := Nat.Coprime.coprime_dvd_left (Nat.div_dvd_of_dvd gA) (Nat.Coprime.coprime_dvd_right (Nat.div_dvd_of_dvd hB') h1); have c4 : Nat.Coprime (C / h) (D / g) := Nat.Coprime.coprime_dvd_left (Nat.div_dvd_of_dvd hC) (Nat.Coprime.coprime_dvd_right (Nat.div_dvd_of_dvd gD) h2); exact Nat.Coprime.mul_left (Nat.Coprime.mul_right c3 c1) (Nat.Coprime.mul_right c2 c4)
end Go.Proofs.Ytcbohbeipgcfhaa.Mth

/- Mul and Div of the program come to the same plain functions as the reference's, for all numbers. -/
namespace Go.Proofs.Ytcbohbeipgcfhaa.Mth
open Go.RowKit Go.Proofs.Ytcbohbeipgcfhaa.G Go.Proofs.Ytcbohbeipgcfhaa.Given Go.Proofs.YtcbohbeipgcfhaaW.PrintWords Go.Proofs.YtcbohbeipgcfhaaW.PrintLast Go.Proofs.YtcbohbeipgcfhaaW.PrintMore
set_option linter.unusedVariables false
theorem quo_sign (a : Int) (g : Nat) (hg : 0 < g) (hd : g ∣ a.natAbs) : (Int.tdiv a (g : Int)).natAbs = a.natAbs / g ∧ (Int.tdiv a (g : Int) < 0 ↔ a < 0) := by
  obtain ⟨q, hq⟩ := hd; (have e : a.natAbs / g = q := by rw [hq, Nat.mul_div_cancel_left _ hg]); rw [e]; have hpos : a ≠ 0 → 0 < q := fun h => Nat.pos_of_ne_zero (fun h2 => h (by rw [h2, Nat.mul_zero] at hq; omega))
  by_cases ha : a < 0
  · have ea : a = -((g : Int) * (q : Int)) := by rw [← Int.natCast_mul]; omega
    have := hpos (by omega); rw [ea, Int.neg_tdiv, Int.mul_tdiv_cancel_left _ (by omega)]; refine ⟨by omega, fun _ => by rw [← ea]; exact ha, by omega⟩
  · have ea : a = (g : Int) * (q : Int) := by rw [← Int.natCast_mul]; omega
    rw [ea, Int.mul_tdiv_cancel_left _ (by omega)]; refine ⟨by omega, by omega, fun h => by rw [← ea] at h; exact absurd h ha⟩
theorem rmul_ev (a b c d : Int) : Ev (fun k => ratio_Mul.f k a b c d) (mulR a b c d) := by
  refine Ev.congr (fun k => by unfold ratio_Mul.f; rfl) ?_; refine Ev.bind (rvalid_ev a b) ?_
  by_cases h1 : okR a b
  · refine Ev.congr (fun k => by rw [if_pos (decide_eq_true h1)]) ?_
    refine Ev.bind (rvalid_ev c d) ?_
    by_cases h2 : okR c d
    · obtain ⟨ia, ib, b1, la, lb⟩ := ok_small h1
      obtain ⟨ic, id, d1, lc, ld⟩ := ok_small h2; (have eR : mulR a b c d = red ((decide (a < 0)) != (decide (c < 0))) (a.natAbs * c.natAbs) (b.natAbs * d.natAbs) := by unfold mulR; rw [if_pos ⟨h1, h2⟩]); rw [eR]; clear eR; have wb := wrap_abs b1 lb; have wd := wrap_abs d1 ld; obtain ⟨g, hg⟩ : ∃ g, g = Nat.gcd a.natAbs d.natAbs := ⟨_, rfl⟩; obtain ⟨h, hh⟩ : ∃ h, h = Nat.gcd c.natAbs b.natAbs := ⟨_, rfl⟩; obtain ⟨core, cop⟩ := mul_core ((decide (a < 0)) != (decide (c < 0))) a.natAbs b.natAbs c.natAbs d.natAbs g h (by omega) (by omega) hg hh h1.2 h2.2; rw [core]; clear core; (have g0 : 0 < g := by rw [hg]; exact Nat.gcd_pos_of_pos_right _ (by omega)); (have h0 : 0 < h := by rw [hh]; exact Nat.gcd_pos_of_pos_right _ (by omega)); (have gz : ¬ ((g : Nat) : Int) = 0 := by clear hg hh cop; omega); (have hz : ¬ ((h : Nat) : Int) = 0 := by clear hg hh cop; omega); (have gA : g ∣ a.natAbs := by rw [hg]; exact Nat.gcd_dvd_left _ _); (have gD : g ∣ d.natAbs := by rw [hg]; exact Nat.gcd_dvd_right _ _); (have hB : h ∣ b.natAbs := by rw [hh]; exact Nat.gcd_dvd_right _ _); have gle := Nat.le_of_dvd (by omega) gD; have hle := Nat.le_of_dvd (by omega) hB; have r1 := gcd_ev d.natAbs a.natAbs; have r2 := gcd_ev b.natAbs c.natAbs; rw [← hg] at r1; rw [← hh] at r2; clear hg hh; obtain ⟨qs, qn⟩ := quo_sign a g g0 gA; (have iq : I64 (Int.tdiv a (g : Int)) := by have := Nat.div_le_self a.natAbs g; unfold I64; omega); (have w1 : wrap64 (g : Int) = (g : Int) := by unfold wrap64; omega); have w2 : wrap64 (Int.tdiv a (g : Int)) = Int.tdiv a (g : Int) := by unfold I64 at iq; unfold wrap64; omega
      have w3 : IntKind.u64.wrap (Int.tdiv (c.natAbs : Int) (h : Int)) = ((c.natAbs / h : Nat) : Int) := by
        have := Nat.div_le_self c.natAbs h; rw [show Int.tdiv (c.natAbs : Int) (h : Int) = ((c.natAbs / h : Nat) : Int) from rfl, wrapN _ (by omega)]
      have w4 : IntKind.u64.wrap (Int.tdiv (b.natAbs : Int) (h : Int)) = ((b.natAbs / h : Nat) : Int) := by
        have := Nat.div_le_self b.natAbs h; rw [show Int.tdiv (b.natAbs : Int) (h : Int) = ((b.natAbs / h : Nat) : Int) from rfl, wrapN _ (by omega)]
      have w5 : IntKind.u64.wrap (Int.tdiv (d.natAbs : Int) (g : Int)) = ((d.natAbs / g : Nat) : Int) := by
        have := Nat.div_le_self d.natAbs g; rw [show Int.tdiv (d.natAbs : Int) (g : Int) = ((d.natAbs / g : Nat) : Int) from rfl, wrapN _ (by omega)]
      have l1 : c.natAbs / h ≤ 1152921504606846976 := Nat.le_trans (Nat.div_le_self _ _) lc; have l2 : b.natAbs / h ≤ 1152921504606846976 := Nat.le_trans (Nat.div_le_self _ _) lb; have l3 : d.natAbs / g ≤ 1152921504606846976 := Nat.le_trans (Nat.div_le_self _ _) ld; have l4 : a.natAbs / g ≤ 1152921504606846976 := Nat.le_trans (Nat.div_le_self _ _) la; have p2 : 0 < b.natAbs / h := Nat.div_pos hle h0; have p3 : 0 < d.natAbs / g := Nat.div_pos gle g0; have t1 := times_eq iq (c.natAbs / h) (by omega); rw [qs] at t1; have t2 := mul64_eq (b.natAbs / h) (d.natAbs / g) (by omega) (by omega); have m1 : a.natAbs / g * (c.natAbs / h) ≤ 1329227995784915872903807060280344576 := Nat.le_trans (Nat.mul_le_mul l4 l1) (by decide); have p4 : 0 < b.natAbs / h * (d.natAbs / g) := Nat.mul_pos p2 p3; (have sg : decide (Int.tdiv a (g : Int) < 0) = decide (a < 0) := by rw [decide_eq_decide]; exact qn); rw [sg] at t1; obtain ⟨N, hN⟩ : ∃ N, a.natAbs / g * (c.natAbs / h) = N := ⟨_, rfl⟩; obtain ⟨D, hD⟩ : ∃ D, b.natAbs / h * (d.natAbs / g) = D := ⟨_, rfl⟩; rw [hN] at t1 m1 cop ⊢; rw [hD] at t2 p4 cop ⊢; refine Ev.step (f := fun k => (ratio_gcd.f k (a.natAbs : Int) (d.natAbs : Int)).bind fun t354 => (ratio_gcd.f k (c.natAbs : Int) (b.natAbs : Int)).bind fun t356 => if (wrap64 (t354)) = 0 then (none) else ((ratio_abs.f c).bind fun t357 => (if t356 = 0 then (none) else ((ratio_times.f (wrap64 (Int.tdiv a (wrap64 (t354)))) (IntKind.u64.wrap (Int.tdiv t357 t356))).bind fun bt358 => (if t354 = 0 then (none) else ((bits_Mul64.f (IntKind.u64.wrap (Int.tdiv (b.natAbs : Int) t356)) (IntKind.u64.wrap (Int.tdiv (d.natAbs : Int) t354))).bind fun bt362 => (if bt362.1 = 0 then ((ratio_lowest.f k (bt358.1 != (decide (c < 0))) bt358.2.1 bt358.2.2 bt362.2).bind fun bt364 => (some (bt364.1, bt364.2.1, bt364.2.2))) else (some (0, 0, 6))))))))) (fun k => ?_) ?_
      · simp only [ratio_Mul.j0]
        rw [if_neg (by simpa using h2), wb, wd, abs_eq ia, abs_eq ic, Option.bind_some]; simp only [Option.bind_some]
      refine Ev.bind r1 ?_; refine Ev.bind r2 ?_; refine Ev.congr (fun k => by rw [w1, w2, if_neg gz, abs_eq ic, Option.bind_some, if_neg hz, w3, t1, Option.bind_some, if_neg gz, w4, w5, t2, Option.bind_some]) ?_
      by_cases hs : D < 18446744073709551616
      · rw [hi_small hs, lo_small hs]
        refine Ev.congr (fun k => by rw [if_pos rfl]) ?_; exact Ev.bind (f := fun _ (t : Int × Int × Int) => some (t.1, t.2.1, t.2.2)) (lowest_ev _ N D (by omega) hs p4) (Ev.now _)
      · rw [red_coprime _ _ _ cop (by omega)]
        exact Ev.congr (fun k => by rw [if_neg (show ¬ hi D = 0 by unfold hi; omega)]) (Ev.now _)
    · have e : mulR a b c d = (0, 0, 1) := by unfold mulR; rw [if_neg (fun h => h2 h.2)]
      rw [e]; refine ev_some (fun k => ?_); simp only [ratio_Mul.j0]; rw [if_pos (by simpa using h2)]
  · have e : mulR a b c d = (0, 0, 1) := by unfold mulR; rw [if_neg (fun h => h1 h.1)]
    rw [e]; refine Ev.congr (fun k => by rw [if_neg (by simpa using h1)]) ?_; refine ev_some (fun k => ?_); simp only [ratio_Mul.j0]; rw [if_pos trivial]
theorem rdiv_ev (a b c d : Int) : Ev (fun k => ratio_Div.f k a b c d) (divR a b c d) := by
  refine Ev.congr (fun k => by unfold ratio_Div.f; rfl) ?_; refine Ev.bind (rvalid_ev a b) ?_
  by_cases h1 : okR a b
  · refine Ev.congr (fun k => by rw [if_pos (decide_eq_true h1)]) ?_
    refine Ev.bind (rvalid_ev c d) ?_
    by_cases h2 : okR c d
    · obtain ⟨ia, ib, b1, la, lb⟩ := ok_small h1
      obtain ⟨ic, id, d1, lc, ld⟩ := ok_small h2
      by_cases h3 : c = 0
      · have eR : divR a b c d = (0, 0, 2) := by unfold divR; rw [if_pos ⟨h1, h2⟩, if_pos h3]
        rw [eR]; refine ev_some (fun k => ?_); simp only [ratio_Div.j0]; rw [if_neg (by simpa using h2), if_pos h3]
      · have eR : divR a b c d = red ((decide (a < 0)) != (decide (c < 0))) (a.natAbs * d.natAbs) (b.natAbs * c.natAbs) := by unfold divR; rw [if_pos ⟨h1, h2⟩, if_neg h3]
        rw [eR]; have cop := h2.2
        by_cases h4 : c < 0
        · have o : okR (-d) (-c) := ⟨by obtain ⟨⟨_, _, _, _⟩, _⟩ := h2; omega, by rw [Int.natAbs_neg, Int.natAbs_neg, Nat.gcd_comm]; exact cop⟩
          have e : mulR a b (-d) (-c) = red ((decide (a < 0)) != (decide (c < 0))) (a.natAbs * d.natAbs) (b.natAbs * c.natAbs) := by
            unfold mulR; rw [if_pos ⟨h1, o⟩, Int.natAbs_neg, Int.natAbs_neg, show decide (-d < 0) = decide (c < 0) from by rw [decide_eq_decide]; omega]
          rw [← e]; refine Ev.step (fun k => ?_) (Ev.bind (f := fun _ (t : Int × Int × Int) => some (t.1, t.2.1, t.2.2)) (rmul_ev a b (-d) (-c)) (Ev.now _)); simp only [ratio_Div.j0]; rw [if_neg (by simpa using h2), if_neg h3, if_pos h4, show wrap64 (-d) = -d from by unfold wrap64; omega, show wrap64 (-c) = -c from by unfold wrap64; omega]
        · have o : okR d c := ⟨by obtain ⟨⟨_, _, _, _⟩, _⟩ := h2; omega, by rw [Nat.gcd_comm]; exact cop⟩
          have e : mulR a b d c = red ((decide (a < 0)) != (decide (c < 0))) (a.natAbs * d.natAbs) (b.natAbs * c.natAbs) := by
            unfold mulR; rw [if_pos ⟨h1, o⟩, show decide (d < 0) = decide (c < 0) from by rw [decide_eq_decide]; omega]
          rw [← e]; refine Ev.step (fun k => ?_) (Ev.bind (f := fun _ (t : Int × Int × Int) => some (t.1, t.2.1, t.2.2)) (rmul_ev a b d c) (Ev.now _)); simp only [ratio_Div.j0]; rw [if_neg (by simpa using h2), if_neg h3, if_neg h4]
    · have e : divR a b c d = (0, 0, 1) := by unfold divR; rw [if_neg (fun h => h2 h.2)]
      rw [e]; refine ev_some (fun k => ?_); simp only [ratio_Div.j0]; rw [if_pos (by simpa using h2)]
  · have e : divR a b c d = (0, 0, 1) := by unfold divR; rw [if_neg (fun h => h1 h.1)]
    rw [e]; refine Ev.congr (fun k => by rw [if_neg (by simpa using h1)]) ?_; refine ev_some (fun k => ?_); simp only [ratio_Div.j0]; rw [if_pos trivial]
end Go.Proofs.Ytcbohbeipgcfhaa.Mth

-- Printed by gp.py (a program of this session's own, over the kit's printer) out of the translation; Lean checks it.
namespace Go.Proofs.Ytcbohbeipgcfhaa.G
open Go.Proofs.Ytcbohbeipgcfhaa.Given Go.Proofs.Ytcbohbeipgcfhaa.Short
open Go.RowKit Go.Proofs.YtcbohbeipgcfhaaW.PrintWords Go.Proofs.YtcbohbeipgcfhaaW.PrintLast Go.Proofs.YtcbohbeipgcfhaaW.PrintMore
attribute [local go_sem] max2_int min2_int max_two min_two max_three min_three max_four min_four   -- for this text's walks alone
set_option linter.unusedVariables false
set_option linter.unusedSimpArgs false

/-! ### r1_total: function 60 -/
def r1_total.f (k : Nat) (a0 : Bool) (a1_0 : Int) (a1_1 : Int) (a2 : Bool) (a3_0 : Int) (a3_1 : Int) : Option (Bool × Int × Int) := if (a0 == a2) = true then ((r1_Plus.f a1_0 a1_1 a3_0 a3_1).bind fun bt468 => (some (a0, bt468.1, bt468.2))) else ((r1_Order.f k a1_0 a1_1 a3_0 a3_1).bind fun t470 => (if t470 ≥ 0 then ((r1_Minus.f a1_0 a1_1 a3_0 a3_1).bind fun bt471 => (some (a0, bt471.1, bt471.2))) else ((r1_Minus.f a3_0 a3_1 a1_0 a1_1).bind fun bt473 => (some (a2, bt473.1, bt473.2)))))
theorem r1_total.mono : ∀ a0 a1 a2 a3 a4 a5 k, LeO (r1_total.f k a0 a1 a2 a3 a4 a5) (r1_total.f (k + 1) a0 a1 a2 a3 a4 a5) := by
 intro a0 a1 a2 a3 a4 a5 k; unfold r1_total.f
 repeat' first
   | (with_reducible exact r1_Order.mono _ _ _ _ _)
   | (with_reducible exact LeO.refl _)
   | (with_reducible exact LeO.none _)
   | (with_reducible refine LeO.ite ?_ ?_)
   | (with_reducible refine LeO.bind ?_ (fun _ => ?_))
   | exact r1_Order.mono _ _ _ _ _
   | exact LeO.none _
   | refine LeO.ite ?_ ?_
   | refine LeO.bind ?_ (fun _ => ?_)
set_option maxHeartbeats 8000000 in
set_option maxRecDepth 100000 in
theorem r1_total.calls (k : Nat) (a0 : Bool) (a1_0 : Int) (a1_1 : Int) (a2 : Bool) (a3_0 : Int) (a3_1 : Int) (r1 : Bool) (r2 : Int) (r3 : Int) (w : World) (h : r1_total.f k a0 a1_0 a1_1 a2 a3_0 a3_1 = some (r1, r2, r3)) :
  Calls Try.prog 60 #[.bool a0, .agg #[.int .u64 a1_0, .int .u64 a1_1], .bool a2, .agg #[.int .u64 a3_0, .int .u64 a3_1]] w fun e w' => e = .returned (.tuple #[.bool r1, .agg #[.int .u64 r2, .int .u64 r3]]) ∧ Below w.heap.size w w' := by
 have hu61 := Try.underlying61; have HB := Aside0.mk (Below.refl w.heap.size w); have H : (if (a0 == a2) = true then ((r1_Plus.f a1_0 a1_1 a3_0 a3_1).bind fun bt468 => (some (a0, bt468.1, bt468.2))) else ((r1_Order.f k a1_0 a1_1 a3_0 a3_1).bind fun t470 => (if t470 ≥ 0 then ((r1_Minus.f a1_0 a1_1 a3_0 a3_1).bind fun bt471 => (some (a0, bt471.1, bt471.2))) else ((r1_Minus.f a3_0 a3_1 a1_0 a1_1).bind fun bt473 => (some (a2, bt473.1, bt473.2)))))) = some (r1, r2, r3) := h; clear h; have HC5 := Aside0.mk H; clear H; go_enter Try.func60, Try.ntmps60
 go_upto_if 12 with (first | ((with_reducible refine gate_dst (N := 5) rfl ?_); refine bx (N := 5) (cs := #[.int .u64 a1_0, .int .u64 a1_1]) (t := 61) ?_; intro gb465 hg w6 hbox hb; have BK465 := Aside0.mk (hbox); have GW465 := gs HB hg; have GE465 := gs HB hg; replace HB := wb HB hb; clear hb hbox hg) | ((with_reducible refine gate_dst (N := 7) rfl ?_); refine bx (N := 7) (cs := #[.int .u64 a3_0, .int .u64 a3_1]) (t := 61) ?_; intro gb466 hg w7 hbox hb; have BK466 := Aside0.mk (hbox); have GW466 := gs HB hg; have GE466 := gs HB hg; have NB465_466 := nl BK465 hg; have NB466_465 := nr BK465 hg; replace BK465 := kb BK465 hb; replace HB := wb HB hb; clear hb hbox hg) | ((with_reducible refine gate_dst (N := 9) rfl ?_); refine bx (N := 9) (cs := #[.int .u64 0, .int .u64 0]) (t := 61) ?_; intro gb467 hg w8 hbox hb; have BK467 := Aside0.mk (hbox); have GW467 := gs HB hg; have GE467 := gs HB hg; have NB465_467 := nl BK465 hg; have NB467_465 := nr BK465 hg; have NB466_467 := nl BK466 hg; have NB467_466 := nr BK466 hg; replace BK465 := kb BK465 hb; replace BK466 := kb BK466 hb; replace HB := wb HB hb; clear hb hbox hg))
 (try simp only [Act.put, List.setIfInBounds_toArray, List.set_cons_zero, List.set_cons_succ]); have H := HC5.out; clear HC5
 by_cases c9 : (a0 == a2) = true
 ·rw [if_pos c9] at H; have c9b0 : (a0 == a2) = true := c9; (try (have c9b1 : decide (a0 = a2) = true := by simpa using c9)); (try (have c9b2 : (a0 == a2) = true := by simpa using c9)); clear c9
  (first | rw [c9b0] | (simp only [i64_w, i32_w]; rw [c9b0]) | skip)
  replace H := Option.bind_eq_some_iff.mp H; obtain ⟨⟨t468, t469⟩, A100, H⟩ := H; (try dsimp only at H); have A10 := Aside0.mk A100; clear A100; simp only [Option.some.injEq, Prod.mk.injEq] at H; obtain ⟨rfl, rfl, rfl⟩ := H; obtain ⟨hnb11, hnc11⟩ := n2 NB465_466; obtain ⟨hnb12, hnc12⟩ := n2 NB465_467; have hcz13_0 : w8.cell? ⟨gb465, 0, none⟩ = some (.int .u64 a1_0) := bc BK465 0; have hcz13_1 : w8.cell? ⟨gb465, 1, none⟩ = some (.int .u64 a1_1) := bc BK465 1; have hfz13_0 := blk_frozen BK465.out 0; have hfz13_1 := blk_frozen BK465.out 1; obtain ⟨hnb14, hnc14⟩ := n2 NB466_467; have hcz15_0 : w8.cell? ⟨gb466, 0, none⟩ = some (.int .u64 a3_0) := bc BK466 0; have hcz15_1 : w8.cell? ⟨gb466, 1, none⟩ = some (.int .u64 a3_1) := bc BK466 1; have hfz15_0 := blk_frozen BK466.out 0; have hfz15_1 := blk_frozen BK466.out 1; (go_wp2_with (first | ((with_reducible refine gate_callee (f := 69) rfl ?_); refine gl (some 16) Try.func69 #[.agg #[.int .u64 a1_0, .int .u64 a1_1], .agg #[.int .u64 a3_0, .int .u64 a3_1]] ?_; (with_reducible refine (r1_Plus.calls a1_0 a1_1 a3_0 a3_1 t468 t469 _ A10.out).mono ?_); rintro e w16 ⟨rfl, hb⟩; refine ⟨_, rfl, ?_⟩; replace BK465 := kb BK465 hb; replace BK466 := kb BK466 hb; replace BK467 := kb BK467 hb; replace HB := wb HB hb; (try clear hb); (try clear hb2); (try clear hk); (try clear hi); have hcz17_0 : w16.cell? ⟨gb467, 0, none⟩ = some (.int .u64 0) := bc BK467 0; have hcz17_1 : w16.cell? ⟨gb467, 1, none⟩ = some (.int .u64 0) := bc BK467 1; have hfz17_0 := blk_frozen BK467.out 0; have hfz17_1 := blk_frozen BK467.out 1))); refine bodyPost_ret (results_tc rfl _ _ gb467 61 #[.int .u64 t468, .int .u64 t469] (0, 0) _ rfl (by refine pe ?_; refine blk_put (cs := #[.int .u64 t468, .int .u64 0]) ?_ 1 _ rfl; refine pe ?_; refine blk_put (cs := #[.int .u64 0, .int .u64 0]) ?_ 0 _ rfl; refine pe ?_; exact BK467.out) Try.underlying61 rfl (by kernel_rfl)) rfl ?_; exact ⟨by first | rfl | (simp [errW_none, errW_some] <;> rfl) | (simp [*, errW_none, errW_some] <;> rfl), bw HB⟩
 ·rw [if_neg c9] at H; (have c9b0 : (a0 == a2) = false := by simpa using c9); (try (have c9b1 : decide (a0 = a2) = false := by simpa using c9)); (try (have c9b2 : (a0 == a2) = false := by simpa using c9)); (try (have c9b3 : ¬ (a0 = a2) := by simpa using c9)); clear c9
  (first | rw [c9b0] | (simp only [i64_w, i32_w]; rw [c9b0]) | skip)
  replace H := Option.bind_eq_some_iff.mp H; obtain ⟨t470, A180, H⟩ := H; (try dsimp only at H); have A18 := Aside0.mk A180; clear A180
  by_cases c19 : t470 ≥ 0
  ·rw [if_pos c19] at H; have c19b0 : decide (0 ≤ t470) = true := decide_eq_true c19; clear c19; replace H := Option.bind_eq_some_iff.mp H; obtain ⟨⟨t471, t472⟩, A200, H⟩ := H; (try dsimp only at H); have A20 := Aside0.mk A200; clear A200; simp only [Option.some.injEq, Prod.mk.injEq] at H; obtain ⟨rfl, rfl, rfl⟩ := H; obtain ⟨hnb21, hnc21⟩ := n2 NB465_466; obtain ⟨hnb22, hnc22⟩ := n2 NB465_467; have hcz23_0 : w8.cell? ⟨gb465, 0, none⟩ = some (.int .u64 a1_0) := bc BK465 0; have hcz23_1 : w8.cell? ⟨gb465, 1, none⟩ = some (.int .u64 a1_1) := bc BK465 1; have hfz23_0 := blk_frozen BK465.out 0; have hfz23_1 := blk_frozen BK465.out 1; obtain ⟨hnb24, hnc24⟩ := n2 NB466_467; have hcz25_0 : w8.cell? ⟨gb466, 0, none⟩ = some (.int .u64 a3_0) := bc BK466 0; have hcz25_1 : w8.cell? ⟨gb466, 1, none⟩ = some (.int .u64 a3_1) := bc BK466 1; have hfz25_0 := blk_frozen BK466.out 0; have hfz25_1 := blk_frozen BK466.out 1; (go_wp2_with (first | ((with_reducible refine gate_callee (f := 70) rfl ?_); refine gl (some 19) Try.func70 #[.agg #[.int .u64 a1_0, .int .u64 a1_1], .agg #[.int .u64 a3_0, .int .u64 a3_1]] ?_; (with_reducible refine (r1_Order.calls k a1_0 a1_1 a3_0 a3_1 t470 _ A18.out).mono ?_); rintro e w26 ⟨rfl, hb⟩; refine ⟨_, rfl, ?_⟩; replace BK465 := kb BK465 hb; replace BK466 := kb BK466 hb; replace BK467 := kb BK467 hb; replace HB := wb HB hb; (try clear hb); (try clear hb2); (try clear hk); (try clear hi); have hcz27_0 : w26.cell? ⟨gb465, 0, none⟩ = some (.int .u64 a1_0) := bc BK465 0; have hcz27_1 : w26.cell? ⟨gb465, 1, none⟩ = some (.int .u64 a1_1) := bc BK465 1; have hfz27_0 := blk_frozen BK465.out 0; have hfz27_1 := blk_frozen BK465.out 1; have hcz28_0 : w26.cell? ⟨gb466, 0, none⟩ = some (.int .u64 a3_0) := bc BK466 0; have hcz28_1 : w26.cell? ⟨gb466, 1, none⟩ = some (.int .u64 a3_1) := bc BK466 1; have hfz28_0 := blk_frozen BK466.out 0; have hfz28_1 := blk_frozen BK466.out 1) | ((with_reducible refine gate_callee (f := 71) rfl ?_); refine gl (some 24) Try.func71 #[.agg #[.int .u64 a1_0, .int .u64 a1_1], .agg #[.int .u64 a3_0, .int .u64 a3_1]] ?_; (with_reducible refine (r1_Minus.calls a1_0 a1_1 a3_0 a3_1 t471 t472 _ A20.out).mono ?_); rintro e w29 ⟨rfl, hb⟩; refine ⟨_, rfl, ?_⟩; replace BK465 := kb BK465 hb; replace BK466 := kb BK466 hb; replace BK467 := kb BK467 hb; replace HB := wb HB hb; (try clear hb); (try clear hb2); (try clear hk); (try clear hi); have hcz30_0 : w29.cell? ⟨gb467, 0, none⟩ = some (.int .u64 0) := bc BK467 0; have hcz30_1 : w29.cell? ⟨gb467, 1, none⟩ = some (.int .u64 0) := bc BK467 1; have hfz30_0 := blk_frozen BK467.out 0; have hfz30_1 := blk_frozen BK467.out 1))); refine bodyPost_ret (results_tc rfl _ _ gb467 61 #[.int .u64 t471, .int .u64 t472] (0, 0) _ rfl (by refine pe ?_; refine blk_put (cs := #[.int .u64 t471, .int .u64 0]) ?_ 1 _ rfl; refine pe ?_; refine blk_put (cs := #[.int .u64 0, .int .u64 0]) ?_ 0 _ rfl; refine pe ?_; exact BK467.out) Try.underlying61 rfl (by kernel_rfl)) rfl ?_; exact ⟨by first | rfl | (simp [errW_none, errW_some] <;> rfl) | (simp [*, errW_none, errW_some] <;> rfl), bw HB⟩
  ·rw [if_neg c19] at H; have c19b0 : decide (0 ≤ t470) = false := decide_eq_false c19; clear c19; replace H := Option.bind_eq_some_iff.mp H; obtain ⟨⟨t473, t474⟩, A310, H⟩ := H; (try dsimp only at H); have A31 := Aside0.mk A310; clear A310; simp only [Option.some.injEq, Prod.mk.injEq] at H; obtain ⟨rfl, rfl, rfl⟩ := H; obtain ⟨hnb32, hnc32⟩ := n2 NB465_466; obtain ⟨hnb33, hnc33⟩ := n2 NB465_467; have hcz34_0 : w8.cell? ⟨gb465, 0, none⟩ = some (.int .u64 a1_0) := bc BK465 0; have hcz34_1 : w8.cell? ⟨gb465, 1, none⟩ = some (.int .u64 a1_1) := bc BK465 1; have hfz34_0 := blk_frozen BK465.out 0; have hfz34_1 := blk_frozen BK465.out 1; obtain ⟨hnb35, hnc35⟩ := n2 NB466_467; have hcz36_0 : w8.cell? ⟨gb466, 0, none⟩ = some (.int .u64 a3_0) := bc BK466 0; have hcz36_1 : w8.cell? ⟨gb466, 1, none⟩ = some (.int .u64 a3_1) := bc BK466 1; have hfz36_0 := blk_frozen BK466.out 0; have hfz36_1 := blk_frozen BK466.out 1; (go_wp2_with (first | ((with_reducible refine gate_callee (f := 70) rfl ?_); refine gl (some 19) Try.func70 #[.agg #[.int .u64 a1_0, .int .u64 a1_1], .agg #[.int .u64 a3_0, .int .u64 a3_1]] ?_; (with_reducible refine (r1_Order.calls k a1_0 a1_1 a3_0 a3_1 t470 _ A18.out).mono ?_); rintro e w37 ⟨rfl, hb⟩; refine ⟨_, rfl, ?_⟩; replace BK465 := kb BK465 hb; replace BK466 := kb BK466 hb; replace BK467 := kb BK467 hb; replace HB := wb HB hb; (try clear hb); (try clear hb2); (try clear hk); (try clear hi); have hcz38_0 : w37.cell? ⟨gb466, 0, none⟩ = some (.int .u64 a3_0) := bc BK466 0; have hcz38_1 : w37.cell? ⟨gb466, 1, none⟩ = some (.int .u64 a3_1) := bc BK466 1; have hfz38_0 := blk_frozen BK466.out 0; have hfz38_1 := blk_frozen BK466.out 1; have hcz39_0 : w37.cell? ⟨gb465, 0, none⟩ = some (.int .u64 a1_0) := bc BK465 0; have hcz39_1 : w37.cell? ⟨gb465, 1, none⟩ = some (.int .u64 a1_1) := bc BK465 1; have hfz39_0 := blk_frozen BK465.out 0; have hfz39_1 := blk_frozen BK465.out 1) | ((with_reducible refine gate_callee (f := 71) rfl ?_); refine gl (some 28) Try.func71 #[.agg #[.int .u64 a3_0, .int .u64 a3_1], .agg #[.int .u64 a1_0, .int .u64 a1_1]] ?_; (with_reducible refine (r1_Minus.calls a3_0 a3_1 a1_0 a1_1 t473 t474 _ A31.out).mono ?_); rintro e w40 ⟨rfl, hb⟩; refine ⟨_, rfl, ?_⟩; replace BK465 := kb BK465 hb; replace BK466 := kb BK466 hb; replace BK467 := kb BK467 hb; replace HB := wb HB hb; (try clear hb); (try clear hb2); (try clear hk); (try clear hi); have hcz41_0 : w40.cell? ⟨gb467, 0, none⟩ = some (.int .u64 0) := bc BK467 0; have hcz41_1 : w40.cell? ⟨gb467, 1, none⟩ = some (.int .u64 0) := bc BK467 1; have hfz41_0 := blk_frozen BK467.out 0; have hfz41_1 := blk_frozen BK467.out 1))); refine bodyPost_ret (results_tc rfl _ _ gb467 61 #[.int .u64 t473, .int .u64 t474] (0, 0) _ rfl (by refine pe ?_; refine blk_put (cs := #[.int .u64 t473, .int .u64 0]) ?_ 1 _ rfl; refine pe ?_; refine blk_put (cs := #[.int .u64 0, .int .u64 0]) ?_ 0 _ rfl; refine pe ?_; exact BK467.out) Try.underlying61 rfl (by kernel_rfl)) rfl ?_; exact ⟨by first | rfl | (simp [errW_none, errW_some] <;> rfl) | (simp [*, errW_none, errW_some] <;> rfl), bw HB⟩

end Go.Proofs.Ytcbohbeipgcfhaa.G
