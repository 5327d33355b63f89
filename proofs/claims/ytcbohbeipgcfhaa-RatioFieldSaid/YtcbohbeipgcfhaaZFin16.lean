/- Texts of this claim laid together: MathN, MathW, PureRatioField. -/
import Derived.Test.YtcbohbeipgcfhaaZFin15
import Derived.Test.YtcbohbeipgcfhaaZFin5
import Derived.Test.YtcbohbeipgcfhaaZFin1
import Derived.Test.YtcbohbeipgcfhaaZFin12
import Derived.Test.YtcbohbeipgcfhaaZFin2
import Derived.Test.YtcbohbeipgcfhaaZFin11
/- Mul and Div of the program come to the same plain functions as the reference's, for all numbers. -/
namespace Go.Proofs.Ytcbohbeipgcfhaa.Mth
open Go.RowKit Go.Proofs.Ytcbohbeipgcfhaa.G Go.Proofs.Ytcbohbeipgcfhaa.Given Go.Proofs.YtcbohbeipgcfhaaW.PrintWords Go.Proofs.YtcbohbeipgcfhaaW.PrintLast Go.Proofs.YtcbohbeipgcfhaaW.PrintMore
set_option linter.unusedVariables false
theorem quo_sign (a : Int) (g : Nat) (hg : 0 < g) (hd : g ∣ a.natAbs) : (Int.tdiv a (g : Int)).natAbs = a.natAbs / g ∧ (Int.tdiv a (g : Int) < 0 ↔ a < 0) := by
  obtain ⟨q, hq⟩ := hd; (have e : a.natAbs / g = q := by rw [hq, Nat.mul_div_cancel_left _ hg]); rw [e]; have hpos : a ≠ 0 → 0 < q := fun h => Nat.pos_of_ne_zero (fun h2 => h (by rw [h2, Nat.mul_zero] at hq; omega))
  by_cases ha : a < 0
  · have ea : a = -((g : Int) * (q : Int)) := by rw [← Int.natCast_mul]; omega
    have := hpos (by omega); rw [ea, Int.neg_tdiv, Int.mul_tdiv_cancel_left _ (by omega)]; refine ⟨by omega, fun _ => by rw [← ea]; exact ha, by omega⟩
  · have ea : a = (g : Int) * (q : Int) := by rw [← Int.natCast_mul]; omega
    rw [ea, Int.mul_tdiv_cancel_left _ (by omega)]; refine ⟨by omega, by omega, fun h => by rw [← ea] at h; exact absurd h ha⟩
theorem rmul_ev (a b c d : Int) : Ev (fun k => ratio_Mul.f k a b c d) (mulR a b c d) := by
  refine Ev.congr (fun k => by unfold ratio_Mul.f; rfl) ?_; refine Ev.bind (rvalid_ev a b) ?_
  by_cases h1 : okR a b
  · refine Ev.congr (fun k => by rw [if_pos (decide_eq_true h1)]) ?_
    refine Ev.bind (rvalid_ev c d) ?_
    by_cases h2 : okR c d
    · obtain ⟨ia, ib, b1, la, lb⟩ := ok_small h1
      obtain ⟨ic, id, d1, lc, ld⟩ := ok_small h2; (have eR : mulR a b c d = red ((decide (a < 0)) != (decide (c < 0))) (a.natAbs * c.natAbs) (b.natAbs * d.natAbs) := by unfold mulR; rw [if_pos ⟨h1, h2⟩]); rw [eR]; clear eR; have wb := wrap_abs b1 lb; have wd := wrap_abs d1 ld; obtain ⟨g, hg⟩ : ∃ g, g = Nat.gcd a.natAbs d.natAbs := ⟨_, rfl⟩; obtain ⟨h, hh⟩ : ∃ h, h = Nat.gcd c.natAbs b.natAbs := ⟨_, rfl⟩; obtain ⟨core, cop⟩ := mul_core ((decide (a < 0)) != (decide (c < 0))) a.natAbs b.natAbs c.natAbs d.natAbs g h (by omega) (by omega) hg hh h1.2 h2.2; rw [core]; clear core; (have g0 : 0 < g := by rw [hg]; exact Nat.gcd_pos_of_pos_right _ (by omega)); (have h0 : 0 < h := by rw [hh]; exact Nat.gcd_pos_of_pos_right _ (by omega)); (have gz : ¬ ((g : Nat) : Int) = 0 := by clear hg hh cop; omega); (have hz : ¬ ((h : Nat) : Int) = 0 := by clear hg hh cop; omega); (have gA : g ∣ a.natAbs := by rw [hg]; exact Nat.gcd_dvd_left _ _); (have gD : g ∣ d.natAbs := by rw [hg]; exact Nat.gcd_dvd_right _ _); (have hB : h ∣ b.natAbs := by rw [hh]; exact Nat.gcd_dvd_right _ _); have gle := Nat.le_of_dvd (by omega) gD; have hle := Nat.le_of_dvd (by omega) hB; have r1 := gcd_ev d.natAbs a.natAbs; have r2 := gcd_ev b.natAbs c.natAbs; rw [← hg] at r1; rw [← hh] at r2; clear hg hh; obtain ⟨qs, qn⟩ := quo_sign a g g0 gA; (have iq : I64 (Int.tdiv a (g : Int)) := by have := Nat.div_le_self a.natAbs g; unfold I64; omega); (have w1 : wrap64 (g : Int) = (g : Int) := by unfold wrap64; omega); have w2 : wrap64 (Int.tdiv a (g : Int)) = Int.tdiv a (g : Int) := by unfold I64 at iq; unfold wrap64; omega
      have w3 : IntKind.u64.wrap (Int.tdiv (c.natAbs : Int) (h : Int)) = ((c.natAbs / h : Nat) : Int) := by
        have := Nat.div_le_self c.natAbs h; rw [show Int.tdiv (c.natAbs : Int) (h : Int) = ((c.natAbs / h : Nat) : Int) from rfl, wrapN _ (by omega)]
      have w4 : IntKind.u64.wrap (Int.tdiv (b.natAbs : Int) (h : Int)) = ((b.natAbs / h : Nat) : Int) := by
        have := Nat.div_le_self b.natAbs h; rw [show Int.tdiv (b.natAbs : Int) (h : Int) = ((b.natAbs / h : Nat) : Int) from rfl, wrapN _ (by omega)]
      have w5 : IntKind.u64.wrap (Int.tdiv (d.natAbs : Int) (g : Int)) = ((d.natAbs / g : Nat) : Int) := by
        have := Nat.div_le_self d.natAbs g; rw [show Int.tdiv (d.natAbs : Int) (g : Int) = ((d.natAbs / g : Nat) : Int) from rfl, wrapN _ (by omega)]
      have l1 : c.natAbs / h ≤ 1152921504606846976 := Nat.le_trans (Nat.div_le_self _ _) lc; have l2 : b.natAbs / h ≤ 1152921504606846976 := Nat.le_trans (Nat.div_le_self _ _) lb; have l3 : d.natAbs / g ≤ 1152921504606846976 := Nat.le_trans (Nat.div_le_self _ _) ld; have l4 : a.natAbs / g ≤ 1152921504606846976 := Nat.le_trans (Nat.div_le_self _ _) la; have p2 : 0 < b.natAbs / h := Nat.div_pos hle h0; have p3 : 0 < d.natAbs / g := Nat.div_pos gle g0; have t1 := times_eq iq (c.natAbs / h) (by omega); rw [qs] at t1; have t2 := mul64_eq (b.natAbs / h) (d.natAbs / g) (by omega) (by omega); have m1 : a.natAbs / g * (c.natAbs / h) ≤ 1329227995784915872903807060280344576 := Nat.le_trans (Nat.mul_le_mul l4 l1) (by decide); have p4 : 0 < b.natAbs / h * (d.natAbs / g) := Nat.mul_pos p2 p3; (have sg : decide (Int.tdiv a (g : Int) < 0) = decide (a < 0) := by rw [decide_eq_decide]; exact qn); rw [sg] at t1; obtain ⟨N, hN⟩ : ∃ N, a.natAbs / g * (c.natAbs / h) = N := ⟨_, rfl⟩; obtain ⟨D, hD⟩ : ∃ D, b.natAbs / h * (d.natAbs / g) = D := ⟨_, rfl⟩; rw [hN] at t1 m1 cop ⊢; rw [hD] at t2 p4 cop ⊢; refine Ev.step (f := fun k => (ratio_gcd.f k (a.natAbs : Int) (d.natAbs : Int)).bind fun t354 => (ratio_gcd.f k (c.natAbs : Int) (b.natAbs : Int)).bind fun t356 => if (wrap64 (t354)) = 0 then (none) else ((ratio_abs.f c).bind fun t357 => (if t356 = 0 then (none) else ((ratio_times.f (wrap64 (Int.tdiv a (wrap64 (t354)))) (IntKind.u64.wrap (Int.tdiv t357 t356))).bind fun bt358 => (if t354 = 0 then (none) else ((bits_Mul64.f (IntKind.u64.wrap (Int.tdiv (b.natAbs : Int) t356)) (IntKind.u64.wrap (Int.tdiv (d.natAbs : Int) t354))).bind fun bt362 => (if bt362.1 = 0 then ((ratio_lowest.f k (bt358.1 != (decide (c < 0))) bt358.2.1 bt358.2.2 bt362.2).bind fun bt364 => (some (bt364.1, bt364.2.1, bt364.2.2))) else (some (0, 0, 6))))))))) (fun k => ?_) ?_
      · simp only [ratio_Mul.j0]
        rw [if_neg (by simpa using h2), wb, wd, abs_eq ia, abs_eq ic, Option.bind_some]; simp only [Option.bind_some]
      refine Ev.bind r1 ?_; refine Ev.bind r2 ?_; refine Ev.congr (fun k => by rw [w1, w2, if_neg gz, abs_eq ic, Option.bind_some, if_neg hz, w3, t1, Option.bind_some, if_neg gz, w4, w5, t2, Option.bind_some]) ?_
      by_cases hs : D < 18446744073709551616
      · rw [hi_small hs, lo_small hs]
        refine Ev.congr (fun k => by rw [if_pos rfl]) ?_; exact Ev.bind (f := fun _ (t : Int × Int × Int) => some (t.1, t.2.1, t.2.2)) (lowest_ev _ N D (by omega) hs p4) (Ev.now _)
      · rw [red_coprime _ _ _ cop (by omega)]
        exact Ev.congr (fun k => by rw [if_neg (show ¬ hi D = 0 by unfold hi; omega)]) (Ev.now _)
    · have e : mulR a b c d = (0, 0, 1) := by unfold mulR; rw [if_neg (fun h => h2 h.2)]
      rw [e]; refine ev_some (fun k => ?_); simp only [ratio_Mul.j0]; rw [if_pos (by simpa using h2)]
  · have e : mulR a b c d = (0, 0, 1) := by unfold mulR; rw [if_neg (fun h => h1 h.1)]
    rw [e]; refine Ev.congr (fun k => by rw [if_neg (by simpa using h1)]) ?_; refine ev_some (fun k => ?_); simp only [ratio_Mul.j0]; rw [if_pos trivial]
theorem rdiv_ev (a b c d : Int) : Ev (fun k => ratio_Div.f k a b c d) (divR a b c d) := by
  refine Ev.congr (fun k => by unfold ratio_Div.f; rfl) ?_; refine Ev.bind (rvalid_ev a b) ?_
  by_cases h1 : okR a b
  · refine Ev.congr (fun k => by rw [if_pos (decide_eq_true h1)]) ?_
    refine Ev.bind (rvalid_ev c d) ?_
    by_cases h2 : okR c d
    · obtain ⟨ia, ib, b1, la, lb⟩ := ok_small h1
      obtain ⟨ic, id, d1, lc, ld⟩ := ok_small h2
      by_cases h3 : c = 0
      · have eR : divR a b c d = (0, 0, 2) := by unfold divR; rw [if_pos ⟨h1, h2⟩, if_pos h3]
        rw [eR]; refine ev_some (fun k => ?_); simp only [ratio_Div.j0]; rw [if_neg (by simpa using h2), if_pos h3]
      · have eR : divR a b c d = red ((decide (a < 0)) != (decide (c < 0))) (a.natAbs * d.natAbs) (b.natAbs * c.natAbs) := by unfold divR; rw [if_pos ⟨h1, h2⟩, if_neg h3]
        rw [eR]; have cop := h2.2
        by_cases h4 : c < 0
        · have o : okR (-d) (-c) := ⟨by obtain ⟨⟨_, _, _, _⟩, _⟩ := h2; omega, by rw [Int.natAbs_neg, Int.natAbs_neg, Nat.gcd_comm]; exact cop⟩
          have e : mulR a b (-d) (-c) = red ((decide (a < 0)) != (decide (c < 0))) (a.natAbs * d.natAbs) (b.natAbs * c.natAbs) := by
            unfold mulR; rw [if_pos ⟨h1, o⟩, Int.natAbs_neg, Int.natAbs_neg, show decide (-d < 0) = decide (c < 0) from by rw [decide_eq_decide]; omega]
          rw [← e]; refine Ev.step (fun k => ?_) (Ev.bind (f := fun _ (t : Int × Int × Int) => some (t.1, t.2.1, t.2.2)) (rmul_ev a b (-d) (-c)) (Ev.now _)); simp only [ratio_Div.j0]; rw [if_neg (by simpa using h2), if_neg h3, if_pos h4, show wrap64 (-d) = -d from by unfold wrap64; omega, show wrap64 (-c) = -c from by unfold wrap64; omega]
        · have o : okR d c := ⟨by obtain ⟨⟨_, _, _, _⟩, _⟩ := h2; omega, by rw [Nat.gcd_comm]; exact cop⟩
          have e : mulR a b d c = red ((decide (a < 0)) != (decide (c < 0))) (a.natAbs * d.natAbs) (b.natAbs * c.natAbs) := by
            unfold mulR; rw [if_pos ⟨h1, o⟩, show decide (d < 0) = decide (c < 0) from by rw [decide_eq_decide]; omega]
          rw [← e]; refine Ev.step (fun k => ?_) (Ev.bind (f := fun _ (t : Int × Int × Int) => some (t.1, t.2.1, t.2.2)) (rmul_ev a b d c) (Ev.now _)); simp only [ratio_Div.j0]; rw [if_neg (by simpa using h2), if_neg h3, if_neg h4]
    · have e : divR a b c d = (0, 0, 1) := by unfold divR; rw [if_neg (fun h => h2 h.2)]
      rw [e]; refine ev_some (fun k => ?_); simp only [ratio_Div.j0]; rw [if_pos (by simpa using h2)]
  · have e : divR a b c d = (0, 0, 1) := by unfold divR; rw [if_neg (fun h => h1 h.1)]
    rw [e]; refine Ev.congr (fun k => by rw [if_neg (by simpa using h1)]) ?_; refine ev_some (fun k => ?_); simp only [ratio_Div.j0]; rw [if_pos trivial]
end Go.Proofs.Ytcbohbeipgcfhaa.Mth

/- The examples of the chapter: what every law asks beside its own matter. -/
namespace Go.Proofs.Ytcbohbeipgcfhaa.Mth
open Go.RowKit Go.Proofs.Ytcbohbeipgcfhaa.G Go.Proofs.Ytcbohbeipgcfhaa.Given Go.Proofs.YtcbohbeipgcfhaaW.PrintWords Go.Proofs.YtcbohbeipgcfhaaW.PrintLast Go.Proofs.YtcbohbeipgcfhaaW.PrintMore
theorem app_ex : ratio_Apportion.f 3 [5, 3, 0] = some ([2, 1, 0], 0) := by decide +kernel
theorem awake_ev : Ev (fun k => awardingbodylaw01_awake.f k) true := by
  have h := rnew_ev (a := 6) (b := -4) (by unfold I64; omega) (by unfold I64; omega); rw [show newR 6 (-4) = (-3, 2, 0) from by decide +kernel] at h; refine Ev.congr (fun k => by unfold awardingbodylaw01_awake.f; rfl) ?_; refine Ev.bind h ?_; refine ev_some (fun k => ?_); rw [app_ex]
  decide
/-- a law's last step: the chapter's examples -/
theorem awake_end : Ev (fun k => (awardingbodylaw01_awake.f k).bind fun t => some t) true := Ev.bind (f := fun _ t => some t) awake_ev (Ev.now _)
end Go.Proofs.Ytcbohbeipgcfhaa.Mth

/- RatioField: for all small fractions the laws of a field hold of Add, Sub, Mul and Div. -/
namespace Go.Proofs.Ytcbohbeipgcfhaa.Pure
open Go.RowKit Go.Proofs.Ytcbohbeipgcfhaa.G Go.Proofs.Ytcbohbeipgcfhaa.Mth Go.Proofs.YtcbohbeipgcfhaaW.PrintWords Go.Proofs.YtcbohbeipgcfhaaW.PrintLast
set_option linter.unusedVariables false
theorem RatioField : awardingbodylaw01_RatioField.Pure := by
  intro l _ _ hl; obtain ⟨t, e0, h0⟩ := new_ok hl; obtain ⟨a, b, p1, e1, h1, oa, la, lb⟩ := small_ok h0; obtain ⟨c, d, p2, e2, h2, oc, lc, ld⟩ := small_ok h1; obtain ⟨e, f, p3, e3, h3, oe, le, lf⟩ := small_ok h2; obtain ⟨u1, v1, r1, m1, n1⟩ := add_fits oa oc la lb lc ld (by decide) (by decide); obtain ⟨u2, v2, r2, m2, n2⟩ := add_fits oc oa lc ld la lb (by decide) (by decide); obtain ⟨u3, v3, r3, m3, n3⟩ := add_fits oc oe lc ld le lf (by decide) (by decide); have V1 := Val.add (Val.self oa) (Val.self oc) r1; have V2 := Val.add (Val.self oc) (Val.self oa) r2; have V3 := Val.add (Val.self oc) (Val.self oe) r3; obtain ⟨u4, v4, r4, m4, n4⟩ := add_fits V1.1 oe m1 n1 le lf (by decide) (by decide); obtain ⟨u5, v5, r5, m5, n5⟩ := add_fits oa V3.1 la lb m3 n3 (by decide) (by decide); obtain ⟨u6, v6, r6, m6, n6⟩ := mul_fits oa oc la lb lc ld (by decide) (by decide); obtain ⟨u7, v7, r7, m7, n7⟩ := mul_fits oc oa lc ld la lb (by decide) (by decide); obtain ⟨u8, v8, r8, m8, n8⟩ := mul_fits oa oe la lb le lf (by decide) (by decide); obtain ⟨u9, v9, r9, m9, n9⟩ := mul_fits oa V3.1 la lb m3 n3 (by decide) (by decide); have V4 := Val.add V1 (Val.self oe) r4; have V5 := Val.add (Val.self oa) V3 r5; have V6 := Val.mul (Val.self oa) (Val.self oc) r6; have V7 := Val.mul (Val.self oc) (Val.self oa) r7; have V8 := Val.mul (Val.self oa) (Val.self oe) r8; have V9 := Val.mul (Val.self oa) V3 r9; obtain ⟨u10, v10, r10, m10, n10⟩ := add_fits V6.1 V8.1 m6 n6 m8 n8 (by decide) (by decide); obtain ⟨u11, v11, r11, m11, n11⟩ := sub_fits V1.1 oc m1 n1 lc ld (by decide) (by decide); have V10 := Val.add V6 V8 r10; have V11 := Val.sub V1 (Val.self oc) r11; obtain ⟨q1, q2⟩ := Val.eq V1 V2 (by grind); obtain ⟨q3, q4⟩ := Val.eq V4 V5 (by grind); obtain ⟨q5, q6⟩ := Val.eq V6 V7 (by grind); obtain ⟨q7, q8⟩ := Val.eq V9 V10 (by grind); obtain ⟨q9, q10⟩ := Val.eq V11 (Val.self oa) (by grind); have x1 := radd_ev a b c d; have x2 := radd_ev c d a b; have x3 := radd_ev c d e f; have x4 := radd_ev u1 v1 e f; have x5 := radd_ev a b u3 v3; have x6 := rmul_ev a b c d; have x7 := rmul_ev c d a b; have x8 := rmul_ev a b e f; have x9 := rmul_ev a b u3 v3; have x10 := radd_ev u6 v6 u8 v8; have x11 := rsub_ev u1 v1 c d; rw [r1] at x1; rw [r2] at x2; rw [r3] at x3; rw [r4] at x4; rw [r5] at x5; rw [r6] at x6; rw [r7] at x7; rw [r8] at x8; rw [r9] at x9; rw [r10] at x10; rw [r11] at x11; have x12 := rdiv_ev u6 v6 c d
  have hd : (c = 0 ∧ divR u6 v6 c d = (0, 0, 2)) ∨ (c ≠ 0 ∧ divR u6 v6 c d = (a, b, 0)) := by
    by_cases hc : c = 0
    · left; exact ⟨hc, by unfold divR; rw [if_pos ⟨V6.1, oc⟩, if_pos hc]⟩
    · right
      obtain ⟨u, v, r, m, n⟩ := div_fits V6.1 oc hc m6 n6 lc ld (by decide) (by decide); obtain ⟨o, k⟩ := div_val V6.1 oc hc r; have k2 := V6.2.2; have v60 := ok_den V6.1; have d0 := ok_den oc; have key : (u * b) * (v6 * c * d) = (a * v) * (v6 * c * d) := by grind
      have hne : v6 * c * d ≠ 0 := by
        intro hz; rcases Int.mul_eq_zero.1 hz with hz | hz
        · rcases Int.mul_eq_zero.1 hz with hz | hz
          · omega
          · exact hc hz
        · omega
      obtain ⟨w1, w2⟩ := okR_inj o oa (Int.eq_of_mul_eq_mul_right hne key); rw [r, w1, w2]; exact ⟨hc, rfl⟩
  have h : Ev (fun k => awardingbodylaw01_RatioField.f k l) true := by
    refine Ev.congr (fun k => by unfold awardingbodylaw01_RatioField.f; rw [e0, Option.bind_some]) ?_; refine Ev.bind e1 ?_; refine Ev.bind e2 ?_; refine Ev.bind e3 ?_; refine Ev.bind x1 ?_; refine Ev.bind x2 ?_; refine Ev.bind x3 ?_; refine Ev.bind x4 ?_; refine Ev.bind x5 ?_; refine Ev.bind x6 ?_; refine Ev.bind x7 ?_; refine Ev.bind x8 ?_; refine Ev.bind x9 ?_; refine Ev.bind x10 ?_; refine Ev.bind x11 ?_; simp only [if_true, bne_self_eq_false]; subst q1 q2 q3 q4 q5 q6 q7 q8 q9 q10; rcases hd with ⟨hc, hd⟩ | ⟨hc, hd⟩
    · rw [hd] at x12
      refine Ev.step (fun k => by simp only [awardingbodylaw01_RatioField.j0]; rw [if_neg (by simp)]) (Ev.bind x12 ?_); refine Ev.congr (fun k => ?_) awake_end; rw [if_pos hc]; simp
    · rw [hd] at x12
      refine Ev.step (fun k => by simp only [awardingbodylaw01_RatioField.j0]; rw [if_neg (by simp)]) (Ev.bind x12 ?_); refine Ev.congr (fun k => ?_) awake_end; rw [if_neg hc]; simp
  obtain ⟨K, hK⟩ := h; exact ⟨K, hK K (Nat.le_refl _)⟩
end Go.Proofs.Ytcbohbeipgcfhaa.Pure
