/- Texts of this claim laid together: MathEf, MathUf, MathT, MathL, MathW, PureRatioSums. -/
import Derived.Test.YtcbohbeipgcfhaaZSun14
import Derived.Test.YtcbohbeipgcfhaaZSun17
import Derived.Test.YtcbohbeipgcfhaaZSun16
import Derived.Test.YtcbohbeipgcfhaaZSun11
import Derived.Test.YtcbohbeipgcfhaaZSun12
import Derived.Test.YtcbohbeipgcfhaaZSun7
import Derived.Test.YtcbohbeipgcfhaaZSun1
import Derived.Test.YtcbohbeipgcfhaaZSun2
/- Products, sums and Compare of the reference, for all numbers. -/
namespace Go.Proofs.Ytcbohbeipgcfhaa.Mth
open Go.RowKit Go.Proofs.Ytcbohbeipgcfhaa.G Go.Proofs.Ytcbohbeipgcfhaa.Given Go.Proofs.YtcbohbeipgcfhaaW.PrintWords Go.Proofs.YtcbohbeipgcfhaaW.PrintLast Go.Proofs.YtcbohbeipgcfhaaW.PrintMore
set_option linter.unusedVariables false
theorem product_eq (x y : Nat) (hx : x < 18446744073709551616) (hy : y < 18446744073709551616) : r1_Product.f x y = some (hi (x * y), lo (x * y)) := by
  unfold r1_Product.f; rw [mul64_eq x y hx hy]; rfl
theorem total_ev (x : Bool) (a : Nat) (y : Bool) (b : Nat) (h : a + b < 340282366920938463463374607431768211456) :
    Ev (fun k => r1_total.f k x (hi a) (lo a) y (hi b) (lo b)) ((tot x a y b).1, hi (tot x a y b).2, lo (tot x a y b).2) := by
  by_cases hxy : x = y
  · rw [tot_same a b hxy]
    refine Ev.congr (fun k => ?_) (Ev.now _); unfold r1_total.f; rw [if_pos (by simpa using hxy), plus_eq a b (by omega) (by omega), Nat.mod_eq_of_lt h]; rfl
  · refine Ev.congr (fun k => by unfold r1_total.f; rw [if_neg (by simpa using hxy)]) ?_
    refine Ev.bind (order_ev a b) ?_; refine Ev.congr (fun k => ?_) (Ev.now _)
    by_cases hl : b ≤ a
    · rw [tot_ge hxy hl, if_pos (by split <;> (try split) <;> omega), minus_eq a b (by omega) (by omega), show (a + 340282366920938463463374607431768211456 - b) % 340282366920938463463374607431768211456 = a - b from by omega]; rfl
    · rw [tot_lt hxy hl, if_neg (by rw [if_pos (by omega)]; omega), minus_eq b a (by omega) (by omega), show (b + 340282366920938463463374607431768211456 - a) % 340282366920938463463374607431768211456 = b - a from by omega]; rfl

theorem fcompare_ev (a b c d : Int) : Ev (fun k => r1_Compare.f k a b c d) (cmpR a b c d) := by
  refine Ev.congr (fun k => by unfold r1_Compare.f; rfl) ?_; refine Ev.bind (fvalid_ev a b) ?_
  by_cases h1 : okR a b
  · refine Ev.congr (fun k => by rw [if_pos (decide_eq_true h1)]) ?_
    refine Ev.bind (fvalid_ev c d) ?_
    by_cases h2 : okR c d
    · obtain ⟨ia, ib, b1, la, lb⟩ := ok_small h1
      obtain ⟨ic, id, d1, lc, ld⟩ := ok_small h2; have sa := signed a d (by omega); have sc := signed c b (by omega); have pa := @mag_pos a d; have pc := @mag_pos c b; have zc := @mag_zero c b; have t1 := product_eq a.natAbs d.natAbs (abs_lt ia) (abs_lt id); have t2 := product_eq c.natAbs b.natAbs (abs_lt ic) (abs_lt ib); have m1 := mag_le la ld; have m2 := mag_le lc lb; (have eR : cmpR a b c d = (if a * d < c * b then -1 else if a * d = c * b then 0 else 1) := by unfold cmpR; rw [if_pos ⟨h1, h2⟩]); rw [eR]; obtain ⟨X, hX⟩ : ∃ X, a * d = X := ⟨_, rfl⟩; obtain ⟨Y, hY⟩ : ∃ Y, c * b = Y := ⟨_, rfl⟩; rw [hX] at sa; rw [hY] at sc; rw [hX, hY]; obtain ⟨P, hP⟩ : ∃ P, a.natAbs * d.natAbs = P := ⟨_, rfl⟩; obtain ⟨Q, hQ⟩ : ∃ Q, c.natAbs * b.natAbs = Q := ⟨_, rfl⟩; rw [hP] at sa pa t1 m1; rw [hQ] at sc pc zc t2 m2; refine Ev.step (f := fun k => (r1_total.f k (decide (a < 0)) (hi P) (lo P) (decide (c > 0)) (hi Q) (lo Q)).bind fun bt487 => (if (bt487.2.1 == 0 && (bt487.2.2 == 0)) = true then (some 0) else (if bt487.1 = true then (some (-1)) else (some 1)))) (fun k => ?_) ?_
      · simp only [r1_Compare.j0]
        rw [if_neg (by simpa using h2), size_eq ia, Option.bind_some, size_eq id, Option.bind_some, t1, Option.bind_some, size_eq ic, Option.bind_some, size_eq ib, Option.bind_some, t2, Option.bind_some]
      · refine Ev.bind (total_ev (decide (a < 0)) P (decide (c > 0)) Q (by omega)) ?_
        refine Ev.congr (fun k => ?_) (Ev.now _)
        have z : ∀ n : Nat, (hi n == 0 && (lo n == 0)) = decide (n = 0) := fun n => by
          rw [Bool.eq_iff_iff, decide_eq_true_eq, Bool.and_eq_true, beq_iff_eq, beq_iff_eq]; unfold hi lo; omega
        rw [z]; (have pa2 : a < 0 → 0 < P := fun h => pa (by omega) (by omega)); (have pc2 : c < 0 → 0 < Q := fun h => pc (by omega) (by omega)); (have pc3 : c > 0 → 0 < Q := fun h => pc (by omega) (by omega)); clear pa pc t1 t2 hP hQ hX hY eR z
        by_cases ha : a < 0
        · rw [if_pos ha] at sa
          by_cases hc : c > 0
          · rw [if_neg (by omega)] at sc
            rw [tot_same _ _ (by rw [decide_eq_true ha, decide_eq_true hc]), if_neg (by simp; omega), if_pos (by simpa using ha), if_pos (by omega)]
          · have hne : decide (a < 0) ≠ decide (c > 0) := by rw [decide_eq_true ha, decide_eq_false hc]; decide
            have sc' : Y = -(Q : Int) := by split at sc <;> omega
            by_cases hl : Q ≤ P
            · rw [tot_ge hne hl]
              by_cases hz : P - Q = 0
              · rw [if_pos (decide_eq_true hz), if_neg (by omega), if_pos (by omega)]
              · rw [if_neg (by simpa using hz), if_pos (by simpa using ha), if_pos (by omega)]
            · rw [tot_lt hne hl, if_neg (by simp; omega), if_neg (by simpa using hc), if_neg (by omega), if_neg (by omega)]
        · rw [if_neg ha] at sa
          by_cases hc : c > 0
          · rw [if_neg (by omega)] at sc
            have hne : decide (a < 0) ≠ decide (c > 0) := by rw [decide_eq_false ha, decide_eq_true hc]; decide
            by_cases hl : Q ≤ P
            · rw [tot_ge hne hl]
              by_cases hz : P - Q = 0
              · rw [if_pos (decide_eq_true hz), if_neg (by omega), if_pos (by omega)]
              · rw [if_neg (by simpa using hz), if_neg (by simpa using ha), if_neg (by omega), if_neg (by omega)]
            · rw [tot_lt hne hl, if_neg (by simp; omega), if_pos (by simpa using hc), if_pos (by omega)]
          · have sc' : Y = -(Q : Int) := by split at sc <;> omega
            rw [tot_same _ _ (by rw [decide_eq_false ha, decide_eq_false hc])]
            by_cases hz : P + Q = 0
            · rw [if_pos (decide_eq_true hz), if_neg (by omega), if_pos (by omega)]
            · rw [if_neg (by simpa using hz), if_neg (by simpa using ha), if_neg (by omega), if_neg (by omega)]
    · have e : cmpR a b c d = 0 := by unfold cmpR; rw [if_neg (fun h => h2 h.2)]
      rw [e]; refine ev_some (fun k => ?_); simp only [r1_Compare.j0]; rw [if_pos (by simpa using h2)]
  · have e : cmpR a b c d = 0 := by unfold cmpR; rw [if_neg (fun h => h1 h.1)]
    rw [e]; refine Ev.congr (fun k => by rw [if_neg (by simpa using h1)]) ?_; refine ev_some (fun k => ?_); simp only [r1_Compare.j0]; rw [if_pos trivial]
end Go.Proofs.Ytcbohbeipgcfhaa.Mth

/- Sum of the reference tells what sumR tells, for all lists. -/
namespace Go.Proofs.Ytcbohbeipgcfhaa.Mth
open Go.RowKit Go.Proofs.Ytcbohbeipgcfhaa.G Go.Proofs.Ytcbohbeipgcfhaa.Given Go.Proofs.YtcbohbeipgcfhaaW.PrintWords Go.Proofs.YtcbohbeipgcfhaaW.PrintLast Go.Proofs.YtcbohbeipgcfhaaW.PrintMore
set_option linter.unusedVariables false

theorem red_sign (s : Bool) (n C : Nat) (hC : 0 < C) : red (s && !decide (n = 0)) n C = red s n C := by
  by_cases h : n = 0
  · subst h; rw [red_zero _ _ hC, red_zero _ _ hC]
  · rw [decide_eq_false h, Bool.not_false, Bool.and_true]

theorem fsum2 {l : List S35} (h100 : l.length ≤ 100) (hok : okL l = true) (D : Nat) (D0 : 0 < D) (D1 : D ≤ 1152921504606846976) :
    ∀ (m i : Nat) (s : Bool) (n : Nat), m = l.length - i → i ≤ l.length → n ≤ i * 1329227995784915872903807060280344576 →
      Ev (fun k => r1_Sum.l2 k l s i (hi D) (lo D) (hi n) (lo n)) (red (totF D s n (l.drop i)).1 (totF D s n (l.drop i)).2 D) := by
  intro m
  induction m with
  | zero =>
    intro i s n hm hi' hn; rw [List.drop_eq_nil_of_le (by omega)]; show Ev _ (red s n D); rw [← red_sign s n D D0]; refine Ev.step (fun k => ?_) (Ev.bind (f := fun _ (t : Int × Int × Int) => some (t.1, t.2.1, t.2.2)) (reduce_ev (s && !decide (n = 0)) n D (by omega) (by omega) D0) (Ev.now _)); simp only [r1_Sum.l2]; rw [if_neg (by omega)]
    cases s with
    | false => rw [if_neg (by simp)]; rfl
    | true =>
      rw [if_pos rfl, show (!(hi n == 0) || (!(lo n == 0))) = (true && !decide (n = 0)) from by
        rw [Bool.true_and, Bool.eq_iff_iff]; simp only [Bool.or_eq_true, Bool.not_eq_true', beq_eq_false_iff_ne, decide_eq_false_iff_not, ne_eq]
        unfold hi lo; omega]
  | succ m ih =>
    intro i s n hm hi' hn; (have il : i < l.length := by omega); have ho := okL_get hok i il; rw [List.drop_eq_getElem_cons il]; obtain ⟨ia, ib, b1, la, lb⟩ := ok_small ho; have q1 : D / l[i].f1.natAbs ≤ 1152921504606846976 := Nat.le_trans (Nat.div_le_self _ _) D1; have hd := divide_ev D l[i].f1.natAbs (by omega) (by have := abs_lt ib; omega) (by omega); rw [hi_small (abs_lt ib), lo_small (abs_lt ib)] at hd; have hp := product_eq l[i].f0.natAbs (D / l[i].f1.natAbs) (abs_lt ia) (by omega); have hm2 : l[i].f0.natAbs * (D / l[i].f1.natAbs) ≤ 1329227995784915872903807060280344576 := Nat.le_trans (Nat.mul_le_mul la q1) (by decide); have hlo : lo (D / l[i].f1.natAbs) = ((D / l[i].f1.natAbs : Nat) : Int) := lo_small (by omega); simp only [totF]; obtain ⟨x, hx⟩ : ∃ x, l[i].f0.natAbs * (D / l[i].f1.natAbs) = x := ⟨_, rfl⟩; rw [hx] at hp hm2 ⊢; have pl := total_ev s n (decide (l[i].f0 < 0)) x (by omega); have hle := tot_le s n (decide (l[i].f0 < 0)) x; refine Ev.step (f := fun k => (r1_Divide.f k (hi D) (lo D) 0 (l[i].f1.natAbs : Int)).bind fun bt600 => ((r1_Product.f (l[i].f0.natAbs : Int) bt600.2.1).bind fun bt609 => ((r1_total.f k s (hi n) (lo n) (decide (l[i].f0 < 0)) bt609.1 bt609.2).bind fun bt611 => (r1_Sum.l2 k l bt611.1 ((i + 1 : Nat) : Int) (hi D) (lo D) bt611.2.1 bt611.2.2)))) (fun k => ?_) ?_
    · simp only [r1_Sum.l2]
      rw [if_pos (by omega), if_pos (by omega), rd35 l i il, size_eq ib, Option.bind_some, size_eq ia, nx i (by omega)]; rfl
    refine Ev.bind hd ?_; refine Ev.congr (fun k => by rw [hlo, hp, Option.bind_some]) ?_; exact Ev.bind pl (ih (i + 1) _ _ (by omega) (by omega) (by omega))

theorem fsum1 {l : List S35} (h100 : l.length ≤ 100) (hok : okL l = true) (F : Nat → Int × Int × Int)
    (hF : ∀ D : Nat, 0 < D → D ≤ 1152921504606846976 → Ev (fun k => r1_Sum.l2 k l false 0 (hi D) (lo D) 0 0) (F D)) :
    ∀ (m i C : Nat), m = l.length - i → i ≤ l.length → 0 < C → C ≤ 1152921504606846976 →
      Ev (fun k => r1_Sum.l1 k l i (hi C) (lo C)) (match lcmF C (l.drop i) with | none => (0, 0, 6) | some D => F D) := by
  intro m
  induction m with
  | zero =>
    intro i C hm hi' C0 C1; rw [List.drop_eq_nil_of_le (by omega)]; refine Ev.step (fun k => ?_) (hF C C0 C1); simp only [r1_Sum.l1]; rw [if_neg (by omega)]
  | succ m ih =>
    intro i C hm hi' C0 C1; (have il : i < l.length := by omega); have ho := okL_get hok i il; rw [List.drop_eq_getElem_cons il]; obtain ⟨ia, ib, b1, la, lb⟩ := ok_small ho; have g0 : 0 < Nat.gcd C l[i].f1.natAbs := Nat.gcd_pos_of_pos_left _ C0; have gle := Nat.gcd_le_left l[i].f1.natAbs C0; have hv := divisor_ev l[i].f1.natAbs C (by omega) (by omega); have hd := divide_ev l[i].f1.natAbs (Nat.gcd C l[i].f1.natAbs) (by omega) (by omega) g0; rw [hi_small (abs_lt ib), lo_small (abs_lt ib)] at hv hd; have q1 := Nat.div_le_self l[i].f1.natAbs (Nat.gcd C l[i].f1.natAbs); have gd := Nat.gcd_dvd_right C l[i].f1.natAbs; have gc := Nat.gcd_dvd_left C l[i].f1.natAbs
    have e : C * (l[i].f1.natAbs / Nat.gcd C l[i].f1.natAbs) = C / Nat.gcd C l[i].f1.natAbs * l[i].f1.natAbs := by
      rw [← Nat.mul_div_assoc _ gd, Nat.mul_comm, Nat.mul_div_assoc _ gc, Nat.mul_comm]
    have x0 : 0 < C / Nat.gcd C l[i].f1.natAbs * l[i].f1.natAbs := Nat.mul_pos (Nat.div_pos gle g0) (by omega); have hp := product_eq C (l[i].f1.natAbs / Nat.gcd C l[i].f1.natAbs) (by omega) (by have := abs_lt ib; omega); have hlo : lo (l[i].f1.natAbs / Nat.gcd C l[i].f1.natAbs) = ((l[i].f1.natAbs / Nat.gcd C l[i].f1.natAbs : Nat) : Int) := lo_small (by have := abs_lt ib; omega); have hlc : lo C = (C : Int) := lo_small (by omega); rw [e] at hp; simp only [lcmF]; obtain ⟨x, hx⟩ : ∃ x, C / Nat.gcd C l[i].f1.natAbs * l[i].f1.natAbs = x := ⟨_, rfl⟩; rw [hx] at hp x0 ⊢; refine Ev.step (f := fun k => (r1_Divisor.f k (hi C) (lo C) 0 (l[i].f1.natAbs : Int)).bind fun bt581 => ((r1_Divide.f k 0 (l[i].f1.natAbs : Int) bt581.1 bt581.2).bind fun bt583 => ((r1_Product.f (lo C) bt583.2.1).bind fun bt589 => (if bt589.1 > 0 then (some (0, 0, 6)) else (if bt589.2 > 1152921504606846976 then (some (0, 0, 6)) else (r1_Sum.l1 k l ((i + 1 : Nat) : Int) bt589.1 bt589.2)))))) (fun k => ?_) ?_
    · simp only [r1_Sum.l1]
      rw [if_pos (by omega), if_pos (by omega), rd35 l i il, size_eq ib, Option.bind_some, nx i (by omega)]
    refine Ev.bind hv ?_; refine Ev.bind hd ?_; refine Ev.congr (fun k => by rw [hlo, hlc, hp, Option.bind_some]) ?_
    by_cases hs : x ≤ 1152921504606846976
    · rw [if_pos hs]
      refine Ev.congr (fun k => by rw [if_neg (show ¬ hi x > 0 by unfold hi; omega), if_neg (show ¬ lo x > 1152921504606846976 by unfold lo; omega)]) (ih (i + 1) x (by omega) (by omega) x0 hs)
    · rw [if_neg hs]
      refine Ev.congr (fun k => ?_) (Ev.now _)
      by_cases h2 : hi x > 0
      · rw [if_pos h2]
      · rw [if_neg h2, if_pos (by unfold hi at h2; unfold lo; omega)]

theorem fsum0 {l : List S35} (h100 : l.length ≤ 100) (R : Int × Int × Int) (hR : okL l = true → Ev (fun k => r1_Sum.l1 k l 0 0 1) R) :
    ∀ (m i : Nat), m = l.length - i → i ≤ l.length → okL (l.take i) = true → Ev (fun k => r1_Sum.l0 k l i) (if okL l = true then R else (0, 0, 1)) := by
  intro m
  induction m with
  | zero =>
    intro i hm hi' ht; rw [List.take_of_length_le (by omega)] at ht; rw [if_pos ht]; refine Ev.step (fun k => ?_) (hR ht); simp only [r1_Sum.l0]; rw [if_neg (by omega)]
  | succ m ih =>
    intro i hm hi' ht; (have il : i < l.length := by omega); refine Ev.step (f := fun k => (r1_Valid.f k l[i].f0 l[i].f1).bind fun t556 => (if t556 = true then (r1_Sum.l0 k l ((i + 1 : Nat) : Int)) else (some (0, 0, 1)))) (fun k => ?_) (Ev.bind (fvalid_ev l[i].f0 l[i].f1) ?_)
    · simp only [r1_Sum.l0]
      rw [if_pos (by omega), if_pos (by omega), rd35 l i il, nx i (by omega)]
    by_cases ho : okR l[i].f0 l[i].f1
    · refine Ev.congr (fun k => by rw [if_pos (decide_eq_true ho)]) (ih (i + 1) (by omega) (by omega) ?_)
      unfold okL at ht ⊢; rw [List.take_succ_eq_append_getElem il, List.all_append, ht]; simp [ho]
    · have : okL l = false := by
        unfold okL; rw [List.all_eq_false]; exact ⟨l[i], List.getElem_mem il, by simpa using ho⟩
      rw [this, if_neg (by simp)]; exact Ev.congr (fun k => by rw [if_neg (by simpa using ho)]) (Ev.now _)
theorem fsum_ev (l : List S35) : Ev (fun k => r1_Sum.f k l) (sumR l) := by
  unfold sumR
  by_cases h : 100 < l.length
  · rw [if_pos h]
    exact Ev.congr (fun k => by unfold r1_Sum.f; rw [if_pos (by omega)]) (Ev.now _)
  · rw [if_neg h]
    refine Ev.congr (fun k => by unfold r1_Sum.f; rw [if_neg (by omega)]) ?_; refine fsum0 (by omega) _ (fun hok => ?_) l.length 0 (by omega) (by omega) rfl; refine fsum1 (by omega) hok (fun D => red (totF D false 0 l).1 (totF D false 0 l).2 D) (fun D D0 D1 => ?_) l.length 0 1 (by omega) (by omega) (by omega) (by omega); exact fsum2 (by omega) hok D D0 D1 l.length 0 false 0 (by omega) (by omega) (by omega)
end Go.Proofs.Ytcbohbeipgcfhaa.Mth

/- What the tape of drawn numbers hands out: each reading comes to an end, keeps the tape in its bounds, and its numbers lie where they should. -/
namespace Go.Proofs.Ytcbohbeipgcfhaa.Mth
open Go.RowKit Go.Proofs.Ytcbohbeipgcfhaa.G Go.Proofs.Ytcbohbeipgcfhaa.Given Go.Proofs.YtcbohbeipgcfhaaW.PrintWords Go.Proofs.YtcbohbeipgcfhaaW.PrintLast Go.Proofs.YtcbohbeipgcfhaaW.PrintMore
set_option linter.unusedVariables false

/-- the tape and the place on it are in bounds -/
def TapeOk (t : List Int) (p : Int) : Prop := (t.length ≤ 600 ∧ ∀ x ∈ t, I64 x) ∧ 0 ≤ p ∧ p ≤ 600
theorem new_ok {l : List Int} (h : ∀ x ∈ l, (Lit.int .i64 x).wf = true) : ∃ t, mk_New.f l = some (t, 0) ∧ TapeOk t 0 := by
  unfold mk_New.f
  by_cases h6 : (l.length : Int) > 600
  · rw [if_pos h6, if_pos (by omega)]
    exact ⟨_, rfl, ⟨by rw [List.length_take]; omega, fun x hx => I64.of (h x (List.mem_of_mem_take hx))⟩, by omega⟩
  · rw [if_neg h6]
    exact ⟨_, rfl, ⟨by omega, fun x hx => I64.of (h x hx)⟩, by omega⟩
theorem raw_ok {t : List Int} {p : Int} (h : TapeOk t p) : ∃ x p', tp_Raw.f t p = some (x, p') ∧ TapeOk t p' ∧ I64 x := by
  obtain ⟨⟨h1, h2⟩, h3, h4⟩ := h; (have e : wrap64 ((wrap64 (p + 1)) - 1) = p := by unfold wrap64; omega); (have e2 : wrap64 (p + 1) = p + 1 := by unfold wrap64; omega); unfold tp_Raw.f; rw [e, e2]
  by_cases h5 : p ≥ (t.length : Int)
  · rw [if_pos h5]; exact ⟨_, _, rfl, ⟨⟨h1, h2⟩, h3, h4⟩, by unfold I64; omega⟩
  · rw [if_neg h5, if_pos h3, if_pos (by omega)]
    refine ⟨_, _, rfl, ⟨⟨h1, h2⟩, by omega, by omega⟩, ?_⟩; (have hl : p.toNat < t.length := by omega); (have e3 : rd t p = t[p.toNat] := by simp [rd, List.getElem?_eq_getElem hl]); rw [e3]; exact h2 _ (List.getElem_mem hl)
theorem cut_ok {a n : Int} (ha : I64 a) (hn : 1 ≤ n) (hn2 : I64 n) : ∃ x, mk_Cut.f a n = some x ∧ 0 ≤ x ∧ x < n := by
  unfold mk_Cut.f; rw [if_neg (by omega), if_neg (by omega)]; have h1 := Int.tmod_lt_of_pos a (show 0 < n by omega)
  have h2 : -n < Int.tmod a n := by
    have := Int.tmod_lt_of_pos (-a) (show 0 < n by omega); rw [Int.neg_tmod] at this; omega
  unfold I64 at hn2
  split
  · refine ⟨_, rfl, ?_⟩; unfold wrap64; omega
  · exact ⟨_, rfl, by omega⟩
theorem next_ok {t : List Int} {p n : Int} (h : TapeOk t p) (hn : 1 ≤ n) (hn2 : I64 n) : ∃ x p', tp_Next.f t p n = some (x, p') ∧ TapeOk t p' ∧ 0 ≤ x ∧ x < n := by
  obtain ⟨y, p', e, h', hy⟩ := raw_ok h; obtain ⟨x, e2, hx⟩ := cut_ok hy hn hn2; refine ⟨x, p', ?_, h', hx⟩; unfold tp_Next.f; rw [e, Option.bind_some, e2]; rfl
theorem range_ok {t : List Int} {p lo hi : Int} (h : TapeOk t p) (h1 : lo ≤ hi) (h2 : -1000000 ≤ lo) (h3 : hi ≤ 1000000) : ∃ x p', tp_Range.f t p lo hi = some (x, p') ∧ TapeOk t p' ∧ lo ≤ x ∧ x ≤ hi := by
  (have e : wrap64 ((wrap64 (hi - lo)) + 1) = hi - lo + 1 := by unfold wrap64; omega); obtain ⟨x, p', e2, h', hx⟩ := next_ok h (n := hi - lo + 1) (by omega) (by unfold I64; omega); refine ⟨lo + x, p', ?_, h', by omega⟩; unfold tp_Range.f; rw [e, e2, Option.bind_some, show wrap64 (lo + x) = lo + x from by unfold wrap64; omega]
theorem one_ok {t : List Int} {p n : Int} (h : TapeOk t p) (hn : 1 ≤ n) (hn2 : I64 n) : ∃ b p', tp_One.f t p n = some (b, p') ∧ TapeOk t p' := by
  obtain ⟨x, p', e2, h', hx⟩ := next_ok h hn hn2; refine ⟨(x == (wrap64 (n - 1))), p', ?_, h'⟩; unfold tp_One.f; rw [e2, Option.bind_some]
theorem pick_ok {t : List Int} {p : Int} {l : List Int} (h : TapeOk t p) (hl : 0 < l.length) (hl2 : l.length ≤ 1000000) : ∃ x p', tp_Pick.f t p l = some (x, p') ∧ TapeOk t p' ∧ x ∈ l := by
  obtain ⟨x, p', e2, h', hx0, hx1⟩ := next_ok h (n := (l.length : Int)) (by omega) (by unfold I64; omega); refine ⟨rd l x, p', ?_, h', ?_⟩
  · unfold tp_Pick.f
    rw [e2, Option.bind_some, if_pos hx0, if_pos hx1]
  · have hl : x.toNat < l.length := by omega
    (have e3 : rd l x = l[x.toNat] := by simp [rd, List.getElem?_eq_getElem hl]); rw [e3]; exact List.getElem_mem hl
theorem spoil_ok {t : List Int} {p a n : Int} (h : TapeOk t p) (hn : 1 ≤ n) (hn2 : I64 n) : ∃ x p', tp_Spoil.f t p a n = some (x, p') ∧ TapeOk t p' := by
  obtain ⟨b, p1, e1, h1⟩ := one_ok h hn hn2; unfold tp_Spoil.f; rw [if_pos (by omega), e1, Option.bind_some]
  cases b with
  | false => rw [if_neg (by simp)]; exact ⟨_, _, rfl, h1⟩
  | true =>
    rw [if_pos rfl]; obtain ⟨x, p2, e2, h2, _⟩ := pick_ok (l := ([(-1), 0, 1, 2, 31, 32, 99, 100, 200, 201, 9999, 10000, 1000000, 1000001, 1152921504606846976, 1152921504606846977, (-1152921504606846976), 9223372036854775807, (-9223372036854775808)] : List Int)) h1 (by decide) (by decide); unfold tp_Wild.f; rw [e2, Option.bind_some, Option.bind_some]; exact ⟨_, _, rfl, h2⟩

/-- a reduced fraction is valid -/
theorem red_ok {s : Bool} {n d : Nat} {a b : Int} (hd : 0 < d) (h : red s n d = (a, b, 0)) : okR a b ∧ a.natAbs = n / Nat.gcd n d ∧ b.natAbs = d / Nat.gcd n d := by
  unfold red at h; have hg : 0 < Nat.gcd n d := Nat.gcd_pos_of_pos_right _ hd; have hc := Nat.coprime_div_gcd_div_gcd hg; have h1 : 0 < d / Nat.gcd n d := Nat.div_pos (Nat.gcd_le_right _ hd) hg; obtain ⟨X, hX⟩ : ∃ X, n / Nat.gcd n d = X := ⟨_, rfl⟩; obtain ⟨Y, hY⟩ : ∃ Y, d / Nat.gcd n d = Y := ⟨_, rfl⟩; rw [hX, hY] at h hc ⊢; rw [hY] at h1
  split at h
  · rename_i hb
    simp only [Prod.mk.injEq] at h; obtain ⟨h2, h3, _⟩ := h; (have ea : a.natAbs = X := by rw [← h2]; split <;> omega); (have eb : b.natAbs = Y := by rw [← h3]; omega); refine ⟨⟨?_, ?_⟩, ea, eb⟩
    · refine ⟨by omega, by omega, ?_, ?_⟩ <;> omega
    · rw [ea, eb]; exact hc
  · simp at h
theorem red_fits (s : Bool) (n d : Nat) (hn : n ≤ 1152921504606846976) (hd : d ≤ 1152921504606846976) : ∃ a b, red s n d = (a, b, 0) := by
  unfold red; rw [if_pos ⟨Nat.le_trans (Nat.div_le_self _ _) hn, Nat.le_trans (Nat.div_le_self _ _) hd⟩]; exact ⟨_, _, rfl⟩
theorem newR_ok {x y a b : Int} (h : newR x y = (a, b, 0)) : okR a b ∧ a.natAbs ≤ x.natAbs ∧ b.natAbs ≤ y.natAbs := by
  unfold newR at h
  split at h
  · simp at h
  · obtain ⟨h1, h2, h3⟩ := red_ok (by omega) h
    exact ⟨h1, by rw [h2]; exact Nat.div_le_self _ _, by rw [h3]; exact Nat.div_le_self _ _⟩

theorem small_ok {t : List Int} {p : Int} (h : TapeOk t p) : ∃ a b p', Ev (fun k => tp_Small.f k t p) (a, b, p') ∧ TapeOk t p' ∧ okR a b ∧ a.natAbs ≤ 30 ∧ b.natAbs ≤ 12 := by
  obtain ⟨x, p1, e1, h1, x0, x1⟩ := range_ok (lo := -30) (hi := 30) h (by omega) (by omega) (by omega); obtain ⟨y, p2, e2, h2, y0, y1⟩ := range_ok (lo := 1) (hi := 12) h1 (by omega) (by omega) (by omega); (have hr : ∃ a b, newR x y = (a, b, 0) := by unfold newR; rw [if_neg (by omega)]; exact red_fits _ _ _ (by omega) (by omega)); obtain ⟨a, b, hr⟩ := hr; obtain ⟨o1, o2, o3⟩ := newR_ok hr; refine ⟨a, b, p2, ?_, h2, o1, by omega, by omega⟩; refine Ev.congr (fun k => by unfold tp_Small.f; rw [e1, Option.bind_some, e2, Option.bind_some]) ?_; have := fnew_ev (a := x) (b := y) (by unfold I64; omega) (by unfold I64; omega); rw [hr] at this; exact Ev.bind (f := fun _ (t : Int × Int × Int) => some (t.1, t.2.1, p2)) this (Ev.now _)

theorem all_i64 {l : List Int} (h : l.all (fun x => decide (-9223372036854775808 ≤ x) && decide (x ≤ 9223372036854775807)) = true) {x : Int} (hx : x ∈ l) : I64 x := by
  have := List.all_eq_true.1 h x hx
  simpa [I64] using this
theorem okR_one : okR 1 1 := by decide
theorem ratio_j_ok {t : List Int} {p x y : Int} (h : TapeOk t p) (hx : I64 x) (hy : I64 y) : ∃ a b p', Ev (fun k => tp_Ratio.j0 k x y t p) (a, b, p') ∧ TapeOk t p' ∧ okR a b := by
  have key (y2 : Int) (hy2 : I64 y2) (p2 : Int) (h2 : TapeOk t p2) : ∃ a b p', Ev (fun k => (r1_New.f k x y2).bind fun bt => (if bt.2.2 = 0 then (some (bt.1, bt.2.1, p2)) else (some (1, 1, p2)))) (a, b, p') ∧ TapeOk t p' ∧ okR a b := by
    have e := fnew_ev hx hy2; obtain ⟨u, v, w, hn⟩ : ∃ u v w, newR x y2 = (u, v, w) := ⟨_, _, _, rfl⟩; rw [hn] at e
    by_cases hw : w = 0
    · subst hw
      exact ⟨u, v, p2, Ev.bind (f := fun _ (bt : Int × Int × Int) => (if bt.2.2 = 0 then (some (bt.1, bt.2.1, p2)) else (some (1, 1, p2)))) e (Ev.congr (fun k => by rw [if_pos rfl]) (Ev.now _)), h2, (newR_ok hn).1⟩
    · exact ⟨1, 1, p2, Ev.bind (f := fun _ (bt : Int × Int × Int) => (if bt.2.2 = 0 then (some (bt.1, bt.2.1, p2)) else (some (1, 1, p2)))) e (Ev.congr (fun k => by rw [if_neg hw]) (Ev.now _)), h2, okR_one⟩
  obtain ⟨b, p1, e1, h1⟩ := one_ok (n := 4) h (by omega) (by unfold I64; omega)
  cases b with
  | false =>
    obtain ⟨a, b, p', e, r⟩ := key y hy p1 h1; refine ⟨a, b, p', Ev.step (fun k => ?_) e, r⟩; simp only [tp_Ratio.j0]; rw [e1, Option.bind_some, if_neg (by simp)]
  | true =>
    obtain ⟨z, p2, e2, h2, hz⟩ := pick_ok (l := ([1152921504606846976, 1152921504606846975, 576460752303423488, 1073741824, 1000000000, 1000000007, 432345564227567616, 1152921504606846869] : List Int)) h1 (by decide) (by decide); obtain ⟨a, b, p', e, r⟩ := key z (all_i64 (by decide) hz) p2 h2; refine ⟨a, b, p', Ev.step (fun k => ?_) e, r⟩; simp only [tp_Ratio.j0]; rw [e1, Option.bind_some, if_pos rfl, e2, Option.bind_some]
theorem ratio_ok {t : List Int} {p : Int} (h : TapeOk t p) : ∃ a b p', Ev (fun k => tp_Ratio.f k t p) (a, b, p') ∧ TapeOk t p' ∧ okR a b := by
  obtain ⟨x, p1, e1, h1, x0, x1⟩ := range_ok (lo := -9) (hi := 9) h (by omega) (by omega) (by omega); obtain ⟨y, p2, e2, h2, y0, y1⟩ := range_ok (lo := 1) (hi := 9) h1 (by omega) (by omega) (by omega); obtain ⟨b, p3, e3, h3⟩ := one_ok (n := 4) h2 (by omega) (by unfold I64; omega); have hy : I64 y := by unfold I64; omega
  cases b with
  | false =>
    obtain ⟨a, b, p', e, r⟩ := ratio_j_ok (x := x) (y := y) h3 (by unfold I64; omega) hy; refine ⟨a, b, p', Ev.congr (fun k => ?_) e, r⟩; unfold tp_Ratio.f; rw [e1, Option.bind_some, e2, Option.bind_some, e3, Option.bind_some, if_neg (by simp)]
  | true =>
    obtain ⟨z, p4, e4, h4, hz⟩ := pick_ok (l := ([1152921504606846976, 1152921504606846975, (-1152921504606846976), 576460752303423488, 1073741824, 3486784401, (-1000000007), 1152921504606846883] : List Int)) h3 (by decide) (by decide); obtain ⟨a, b, p', e, r⟩ := ratio_j_ok (x := z) (y := y) h4 (all_i64 (by decide) hz) hy; refine ⟨a, b, p', Ev.congr (fun k => ?_) e, r⟩; unfold tp_Ratio.f; rw [e1, Option.bind_some, e2, Option.bind_some, e3, Option.bind_some, if_pos rfl, e4, Option.bind_some]
theorem loose_ok {t : List Int} {p : Int} (h : TapeOk t p) : ∃ a b p', Ev (fun k => tp_Loose.f k t p) (a, b, p') ∧ TapeOk t p' := by
  obtain ⟨a, b, p1, e1, h1, _⟩ := ratio_ok h; obtain ⟨c, p2, e2, h2⟩ := one_ok (n := 3) h1 (by omega) (by unfold I64; omega)
  cases c with
  | false =>
    refine ⟨a, b, p2, Ev.congr (fun k => by unfold tp_Loose.f; rfl) (Ev.bind e1 (Ev.congr (fun k => ?_) (Ev.now _))), h2⟩; rw [e2, Option.bind_some, if_neg (by simp)]
  | true =>
    obtain ⟨x, p3, e3, h3, x0, x1⟩ := range_ok (lo := -8) (hi := 8) h2 (by omega) (by omega) (by omega); obtain ⟨u, p4, e4, h4⟩ := spoil_ok (a := x) (n := 3) h3 (by omega) (by unfold I64; omega); obtain ⟨y, p5, e5, h5, y0, y1⟩ := range_ok (lo := -1) (hi := 8) h4 (by omega) (by omega) (by omega); obtain ⟨v, p6, e6, h6⟩ := spoil_ok (a := y) (n := 3) h5 (by omega) (by unfold I64; omega); refine ⟨u, v, p6, Ev.congr (fun k => by unfold tp_Loose.f; rfl) (Ev.bind e1 (Ev.congr (fun k => ?_) (Ev.now _))), h6⟩; rw [e2, Option.bind_some, if_pos rfl, e3, Option.bind_some, e4, Option.bind_some, e5, Option.bind_some, e6, Option.bind_some]
end Go.Proofs.Ytcbohbeipgcfhaa.Mth

/- The drawn list of fractions: the drawing comes to an end and the list is short. -/
namespace Go.Proofs.Ytcbohbeipgcfhaa.Mth
open Go.RowKit Go.Proofs.Ytcbohbeipgcfhaa.G Go.Proofs.Ytcbohbeipgcfhaa.Given Go.Proofs.YtcbohbeipgcfhaaW.PrintWords Go.Proofs.YtcbohbeipgcfhaaW.PrintLast Go.Proofs.YtcbohbeipgcfhaaW.PrintMore
set_option linter.unusedVariables false
theorem list_l_ok {t : List Int} (n : Nat) : ∀ (p : Int) (xs : List S35), TapeOk t p → xs.length + n ≤ 6 →
    ∃ ys p', Ev (fun k => awardingbodylaw01_list.l0 k true xs n t p) (ys, p') ∧ TapeOk t p' ∧ ys.length ≤ 6 := by
  induction n with
  | zero =>
    intro p xs h hn; refine ⟨xs, p, ev_some (fun k => ?_), h, by omega⟩; simp only [awardingbodylaw01_list.l0]; rw [if_neg (by simp)]
  | succ n ih =>
    intro p xs h hn; (have hw : wrap64 (((n + 1 : Nat) : Int) - 1) = (n : Int) := by unfold wrap64; omega); obtain ⟨b, p1, e1, h1⟩ := one_ok (n := 6) h (by omega) (by unfold I64; omega)
    cases b with
    | true =>
      obtain ⟨u, v, p2, e2, h2⟩ := loose_ok h1; obtain ⟨ys, p', e, r⟩ := ih p2 (xs ++ [⟨u, v⟩]) h2 (by simp; omega); refine ⟨ys, p', Ev.step (f := fun k => awardingbodylaw01_list.j1 k true xs ((n + 1 : Nat) : Int) true t p1) (fun k => ?_) (Ev.step (fun k => ?_) (Ev.bind (f := fun k (bt : Int × Int × Int) => if xs.length < 8796093022208 then (awardingbodylaw01_list.l0 k true (xs ++ [(⟨bt.1, bt.2.1⟩ : S35)]) (wrap64 (((n + 1 : Nat) : Int) - 1)) t bt.2.2) else none) e2 (Ev.congr (fun k => by rw [if_pos (by omega), hw]) e))), r⟩
      · simp only [awardingbodylaw01_list.l0]
        rw [if_pos (by omega), if_pos trivial, e1, Option.bind_some]
      · simp only [awardingbodylaw01_list.j1]
        rw [if_pos trivial]
    | false =>
      obtain ⟨c, p2, e2, h2, c0, c1⟩ := next_ok (n := 2) h1 (by omega) (by unfold I64; omega)
      by_cases hc : c = 0
      · obtain ⟨u, v, p3, e3, h3, _⟩ := small_ok h2
        obtain ⟨ys, p', e, r⟩ := ih p3 (xs ++ [⟨u, v⟩]) h3 (by simp; omega); refine ⟨ys, p', Ev.step (f := fun k => awardingbodylaw01_list.j1 k true xs ((n + 1 : Nat) : Int) false t p1) (fun k => ?_) (Ev.step (fun k => ?_) (Ev.bind (f := fun k (bt : Int × Int × Int) => if xs.length < 8796093022208 then (awardingbodylaw01_list.l0 k true (xs ++ [(⟨bt.1, bt.2.1⟩ : S35)]) (wrap64 (((n + 1 : Nat) : Int) - 1)) t bt.2.2) else none) e3 (Ev.congr (fun k => by rw [if_pos (by omega), hw]) e))), r⟩
        · simp only [awardingbodylaw01_list.l0]
          rw [if_pos (by omega), if_pos trivial, e1, Option.bind_some]
        · simp only [awardingbodylaw01_list.j1]
          rw [if_neg (by simp), e2, Option.bind_some, if_pos hc]
      · obtain ⟨u, v, p3, e3, h3, _⟩ := ratio_ok h2
        obtain ⟨ys, p', e, r⟩ := ih p3 (xs ++ [⟨u, v⟩]) h3 (by simp; omega); refine ⟨ys, p', Ev.step (f := fun k => awardingbodylaw01_list.j1 k true xs ((n + 1 : Nat) : Int) false t p1) (fun k => ?_) (Ev.step (fun k => ?_) (Ev.bind (f := fun k (bt : Int × Int × Int) => if xs.length < 8796093022208 then (awardingbodylaw01_list.l0 k true (xs ++ [(⟨bt.1, bt.2.1⟩ : S35)]) (wrap64 (((n + 1 : Nat) : Int) - 1)) t bt.2.2) else none) e3 (Ev.congr (fun k => by rw [if_pos (by omega), hw]) e))), r⟩
        · simp only [awardingbodylaw01_list.l0]
          rw [if_pos (by omega), if_pos trivial, e1, Option.bind_some]
        · simp only [awardingbodylaw01_list.j1]
          rw [if_neg (by simp), e2, Option.bind_some, if_neg hc]
theorem list_ok {t : List Int} {p : Int} (h : TapeOk t p) : ∃ ys p', Ev (fun k => awardingbodylaw01_list.f k t p true) (ys, p') ∧ TapeOk t p' ∧ ys.length ≤ 6 := by
  obtain ⟨x, p1, e1, h1, x0, x1⟩ := next_ok (n := 7) h (by omega) (by unfold I64; omega); obtain ⟨m, rfl⟩ := Int.eq_ofNat_of_zero_le x0; obtain ⟨ys, p', e, r⟩ := list_l_ok m p1 [] h1 (by simp; omega); exact ⟨ys, p', Ev.congr (fun k => by unfold awardingbodylaw01_list.f; rw [e1, Option.bind_some]) e, r⟩
end Go.Proofs.Ytcbohbeipgcfhaa.Mth

/- The examples of the chapter: what every law asks beside its own matter. -/
namespace Go.Proofs.Ytcbohbeipgcfhaa.Mth
open Go.RowKit Go.Proofs.Ytcbohbeipgcfhaa.G Go.Proofs.Ytcbohbeipgcfhaa.Given Go.Proofs.YtcbohbeipgcfhaaW.PrintWords Go.Proofs.YtcbohbeipgcfhaaW.PrintLast Go.Proofs.YtcbohbeipgcfhaaW.PrintMore
theorem app_ex : ratio_Apportion.f 3 [5, 3, 0] = some ([2, 1, 0], 0) := by decide +kernel
theorem awake_ev : Ev (fun k => awardingbodylaw01_awake.f k) true := by
  have h := rnew_ev (a := 6) (b := -4) (by unfold I64; omega) (by unfold I64; omega); rw [show newR 6 (-4) = (-3, 2, 0) from by decide +kernel] at h; refine Ev.congr (fun k => by unfold awardingbodylaw01_awake.f; rfl) ?_; refine Ev.bind h ?_; refine ev_some (fun k => ?_); rw [app_ex]
  decide
/-- a law's last step: the chapter's examples -/
theorem awake_end : Ev (fun k => (awardingbodylaw01_awake.f k).bind fun t => some t) true := Ev.bind (f := fun _ t => some t) awake_ev (Ev.now _)
end Go.Proofs.Ytcbohbeipgcfhaa.Mth

/- RatioSums: for every tape Sum of the program and of the reference give the same. -/
namespace Go.Proofs.Ytcbohbeipgcfhaa.Pure
open Go.RowKit Go.Proofs.Ytcbohbeipgcfhaa.G Go.Proofs.Ytcbohbeipgcfhaa.Mth Go.Proofs.YtcbohbeipgcfhaaW.PrintWords Go.Proofs.YtcbohbeipgcfhaaW.PrintLast
theorem RatioSums : awardingbodylaw01_RatioSums.Pure := by
  intro l _ _ hl; obtain ⟨t, e0, h0⟩ := new_ok hl; obtain ⟨ys, p1, e1, h1, _⟩ := list_ok h0
  have h : Ev (fun k => awardingbodylaw01_RatioSums.f k l) true := by
    refine Ev.congr (fun k => by unfold awardingbodylaw01_RatioSums.f; rw [e0, Option.bind_some]) ?_; refine Ev.bind e1 ?_; refine Ev.bind (rsum_ev ys) ?_; refine Ev.bind (fsum_ev ys) ?_; refine Ev.congr (fun k => ?_) awake_end; simp
  obtain ⟨K, hK⟩ := h; exact ⟨K, hK K (Nat.le_refl _)⟩
end Go.Proofs.Ytcbohbeipgcfhaa.Pure
