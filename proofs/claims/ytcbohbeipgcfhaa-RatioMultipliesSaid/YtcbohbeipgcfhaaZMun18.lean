/- Texts of this claim laid together: MathEf, MathMf, Gf44, MathT, MathW, PureRatioMultiplies. -/
import Derived.Test.YtcbohbeipgcfhaaShortC
import Derived.Test.YtcbohbeipgcfhaaZMun14
import Derived.Test.YtcbohbeipgcfhaaZMun17
import Derived.Test.YtcbohbeipgcfhaaZMun16
import Derived.Test.YtcbohbeipgcfhaaZMun9
import Derived.Test.YtcbohbeipgcfhaaZMun10
import Derived.Test.YtcbohbeipgcfhaaG0
import Derived.Test.YtcbohbeipgcfhaaZMun2
import Derived.Test.YtcbohbeipgcfhaaZMun5
import Derived.Test.YtcbohbeipgcfhaaZMun6
import Derived.Test.YtcbohbeipgcfhaaZMun12
import Derived.Test.YtcbohbeipgcfhaaZMun7
import Derived.Test.YtcbohbeipgcfhaaZMun1
import Derived.Test.YtcbohbeipgcfhaaZMun11
/- Products, sums and Compare of the reference, for all numbers. -/
namespace Go.Proofs.Ytcbohbeipgcfhaa.Mth
open Go.RowKit Go.Proofs.Ytcbohbeipgcfhaa.G Go.Proofs.Ytcbohbeipgcfhaa.Given Go.Proofs.YtcbohbeipgcfhaaW.PrintWords Go.Proofs.YtcbohbeipgcfhaaW.PrintLast Go.Proofs.YtcbohbeipgcfhaaW.PrintMore
set_option linter.unusedVariables false
theorem product_eq (x y : Nat) (hx : x < 18446744073709551616) (hy : y < 18446744073709551616) : r1_Product.f x y = some (hi (x * y), lo (x * y)) := by
  unfold r1_Product.f; rw [mul64_eq x y hx hy]; rfl
theorem total_ev (x : Bool) (a : Nat) (y : Bool) (b : Nat) (h : a + b < 340282366920938463463374607431768211456) :
    Ev (fun k => r1_total.f k x (hi a) (lo a) y (hi b) (lo b)) ((tot x a y b).1, hi (tot x a y b).2, lo (tot x a y b).2) := by
  by_cases hxy : x = y
  · rw [tot_same a b hxy]
    refine Ev.congr (fun k => ?_) (Ev.now _); unfold r1_total.f; rw [if_pos (by simpa using hxy), plus_eq a b (by omega) (by omega), Nat.mod_eq_of_lt h]; rfl
  · refine Ev.congr (fun k => by unfold r1_total.f; rw [if_neg (by simpa using hxy)]) ?_
    refine Ev.bind (order_ev a b) ?_; refine Ev.congr (fun k => ?_) (Ev.now _)
    by_cases hl : b ≤ a
    · rw [tot_ge hxy hl, if_pos (by split <;> (try split) <;> omega), minus_eq a b (by omega) (by omega), show (a + 340282366920938463463374607431768211456 - b) % 340282366920938463463374607431768211456 = a - b from by omega]; rfl
    · rw [tot_lt hxy hl, if_neg (by rw [if_pos (by omega)]; omega), minus_eq b a (by omega) (by omega), show (b + 340282366920938463463374607431768211456 - a) % 340282366920938463463374607431768211456 = b - a from by omega]; rfl

theorem fcompare_ev (a b c d : Int) : Ev (fun k => r1_Compare.f k a b c d) (cmpR a b c d) := by
  refine Ev.congr (fun k => by unfold r1_Compare.f; rfl) ?_; refine Ev.bind (fvalid_ev a b) ?_
  by_cases h1 : okR a b
  · refine Ev.congr (fun k => by rw [if_pos (decide_eq_true h1)]) ?_
    refine Ev.bind (fvalid_ev c d) ?_
    by_cases h2 : okR c d
    · obtain ⟨ia, ib, b1, la, lb⟩ := ok_small h1
      obtain ⟨ic, id, d1, lc, ld⟩ := ok_small h2; have sa := signed a d (by omega); have sc := signed c b (by omega); have pa := @mag_pos a d; have pc := @mag_pos c b; have zc := @mag_zero c b; have t1 := product_eq a.natAbs d.natAbs (abs_lt ia) (abs_lt id); have t2 := product_eq c.natAbs b.natAbs (abs_lt ic) (abs_lt ib); have m1 := mag_le la ld; have m2 := mag_le lc lb; (have eR : cmpR a b c d = (if a * d < c * b then -1 else if a * d = c * b then 0 else 1) := by unfold cmpR; rw [if_pos ⟨h1, h2⟩]); rw [eR]; obtain ⟨X, hX⟩ : ∃ X, a * d = X := ⟨_, rfl⟩; obtain ⟨Y, hY⟩ : ∃ Y, c * b = Y := ⟨_, rfl⟩; rw [hX] at sa; rw [hY] at sc; rw [hX, hY]; obtain ⟨P, hP⟩ : ∃ P, a.natAbs * d.natAbs = P := ⟨_, rfl⟩; obtain ⟨Q, hQ⟩ : ∃ Q, c.natAbs * b.natAbs = Q := ⟨_, rfl⟩; rw [hP] at sa pa t1 m1; rw [hQ] at sc pc zc t2 m2; refine Ev.step (f := fun k => (r1_total.f k (decide (a < 0)) (hi P) (lo P) (decide (c > 0)) (hi Q) (lo Q)).bind fun bt487 => (if (bt487.2.1 == 0 && (bt487.2.2 == 0)) = true then (some 0) else (if bt487.1 = true then (some (-1)) else (some 1)))) (fun k => ?_) ?_
      · simp only [r1_Compare.j0]
        rw [if_neg (by simpa using h2), size_eq ia, Option.bind_some, size_eq id, Option.bind_some, t1, Option.bind_some, size_eq ic, Option.bind_some, size_eq ib, Option.bind_some, t2, Option.bind_some]
      · refine Ev.bind (total_ev (decide (a < 0)) P (decide (c > 0)) Q (by omega)) ?_
        refine Ev.congr (fun k => ?_) (Ev.now _)
        have z : ∀ n : Nat, (hi n == 0 && (lo n == 0)) = decide (n = 0) := fun n => by
          rw [Bool.eq_iff_iff, decide_eq_true_eq, Bool.and_eq_true, beq_iff_eq, beq_iff_eq]; unfold hi lo; omega
        rw [z]; (have pa2 : a < 0 → 0 < P := fun h => pa (by omega) (by omega)); (have pc2 : c < 0 → 0 < Q := fun h => pc (by omega) (by omega)); (have pc3 : c > 0 → 0 < Q := fun h => pc (by omega) (by omega)); clear pa pc t1 t2 hP hQ hX hY eR z
        by_cases ha : a < 0
        · rw [if_pos ha] at sa
          by_cases hc : c > 0
          · rw [if_neg (by omega)] at sc
            rw [tot_same _ _ (by rw [decide_eq_true ha, decide_eq_true hc]), if_neg (by simp; omega), if_pos (by simpa using ha), if_pos (by omega)]
          · have hne : decide (a < 0) ≠ decide (c > 0) := by rw [decide_eq_true ha, decide_eq_false hc]; decide
            have sc' : Y = -(Q : Int) := by split at sc <;> omega
            by_cases hl : Q ≤ P
            · rw [tot_ge hne hl]
              by_cases hz : P - Q = 0
              · rw [if_pos (decide_eq_true hz), if_neg (by omega), if_pos (by omega)]
              · rw [if_neg (by simpa using hz), if_pos (by simpa using ha), if_pos (by omega)]
            · rw [tot_lt hne hl, if_neg (by simp; omega), if_neg (by simpa using hc), if_neg (by omega), if_neg (by omega)]
        · rw [if_neg ha] at sa
          by_cases hc : c > 0
          · rw [if_neg (by omega)] at sc
            have hne : decide (a < 0) ≠ decide (c > 0) := by rw [decide_eq_false ha, decide_eq_true hc]; decide
            by_cases hl : Q ≤ P
            · rw [tot_ge hne hl]
              by_cases hz : P - Q = 0
              · rw [if_pos (decide_eq_true hz), if_neg (by omega), if_pos (by omega)]
              · rw [if_neg (by simpa using hz), if_neg (by simpa using ha), if_neg (by omega), if_neg (by omega)]
            · rw [tot_lt hne hl, if_neg (by simp; omega), if_pos (by simpa using hc), if_pos (by omega)]
          · have sc' : Y = -(Q : Int) := by split at sc <;> omega
            rw [tot_same _ _ (by rw [decide_eq_false ha, decide_eq_false hc])]
            by_cases hz : P + Q = 0
            · rw [if_pos (decide_eq_true hz), if_neg (by omega), if_pos (by omega)]
            · rw [if_neg (by simpa using hz), if_neg (by simpa using ha), if_neg (by omega), if_neg (by omega)]
    · have e : cmpR a b c d = 0 := by unfold cmpR; rw [if_neg (fun h => h2 h.2)]
      rw [e]; refine ev_some (fun k => ?_); simp only [r1_Compare.j0]; rw [if_pos (by simpa using h2)]
  · have e : cmpR a b c d = 0 := by unfold cmpR; rw [if_neg (fun h => h1 h.1)]
    rw [e]; refine Ev.congr (fun k => by rw [if_neg (by simpa using h1)]) ?_; refine ev_some (fun k => ?_); simp only [r1_Compare.j0]; rw [if_pos trivial]
end Go.Proofs.Ytcbohbeipgcfhaa.Mth

/- Mul and Div of the reference tell what mulR and divR tell, for all numbers. -/
namespace Go.Proofs.Ytcbohbeipgcfhaa.Mth
open Go.RowKit Go.Proofs.Ytcbohbeipgcfhaa.G Go.Proofs.Ytcbohbeipgcfhaa.Given Go.Proofs.YtcbohbeipgcfhaaW.PrintWords Go.Proofs.YtcbohbeipgcfhaaW.PrintLast Go.Proofs.YtcbohbeipgcfhaaW.PrintMore
set_option linter.unusedVariables false
theorem fmul_ev (a b c d : Int) : Ev (fun k => r1_Mul.f k a b c d) (mulR a b c d) := by
  refine Ev.congr (fun k => by unfold r1_Mul.f; rfl) ?_; refine Ev.bind (fvalid_ev a b) ?_
  by_cases h1 : okR a b
  · refine Ev.congr (fun k => by rw [if_pos (decide_eq_true h1)]) ?_
    refine Ev.bind (fvalid_ev c d) ?_
    by_cases h2 : okR c d
    · obtain ⟨ia, ib, b1, la, lb⟩ := ok_small h1
      obtain ⟨ic, id, d1, lc, ld⟩ := ok_small h2; have t1 := product_eq a.natAbs c.natAbs (abs_lt ia) (abs_lt ic); have t3 := product_eq b.natAbs d.natAbs (abs_lt ib) (abs_lt id); have m1 := mag_le la lc; have m3 := mag_le lb ld; have p3 := mag_pos (a := b) (d := d) (by omega) (by omega); (have eR : mulR a b c d = red ((decide (a < 0)) != (decide (c < 0))) (a.natAbs * c.natAbs) (b.natAbs * d.natAbs) := by unfold mulR; rw [if_pos ⟨h1, h2⟩]); rw [eR]; obtain ⟨P, hP⟩ : ∃ P, a.natAbs * c.natAbs = P := ⟨_, rfl⟩; obtain ⟨R, hR⟩ : ∃ R, b.natAbs * d.natAbs = R := ⟨_, rfl⟩; rw [hP] at t1 m1 ⊢; rw [hR] at t3 m3 p3 ⊢; refine Ev.step (fun k => ?_) (Ev.bind (f := fun _ (t : Int × Int × Int) => some (t.1, t.2.1, t.2.2)) (reduce_ev _ P R (by omega) (by omega) p3) (Ev.now _)); simp only [r1_Mul.j0]; rw [if_neg (by simpa using h2), size_eq ia, Option.bind_some, size_eq ic, Option.bind_some, t1, Option.bind_some, size_eq ib, Option.bind_some, size_eq id, Option.bind_some, t3, Option.bind_some]
    · have e : mulR a b c d = (0, 0, 1) := by unfold mulR; rw [if_neg (fun h => h2 h.2)]
      rw [e]; refine ev_some (fun k => ?_); simp only [r1_Mul.j0]; rw [if_pos (by simpa using h2)]
  · have e : mulR a b c d = (0, 0, 1) := by unfold mulR; rw [if_neg (fun h => h1 h.1)]
    rw [e]; refine Ev.congr (fun k => by rw [if_neg (by simpa using h1)]) ?_; refine ev_some (fun k => ?_); simp only [r1_Mul.j0]; rw [if_pos trivial]
theorem fdiv_ev (a b c d : Int) : Ev (fun k => r1_Div.f k a b c d) (divR a b c d) := by
  refine Ev.congr (fun k => by unfold r1_Div.f; rfl) ?_; refine Ev.bind (fvalid_ev a b) ?_
  by_cases h1 : okR a b
  · refine Ev.congr (fun k => by rw [if_pos (decide_eq_true h1)]) ?_
    refine Ev.bind (fvalid_ev c d) ?_
    by_cases h2 : okR c d
    · obtain ⟨ia, ib, b1, la, lb⟩ := ok_small h1
      obtain ⟨ic, id, d1, lc, ld⟩ := ok_small h2
      by_cases h3 : c = 0
      · have eR : divR a b c d = (0, 0, 2) := by unfold divR; rw [if_pos ⟨h1, h2⟩, if_pos h3]
        rw [eR]; refine ev_some (fun k => ?_); simp only [r1_Div.j0]; rw [if_neg (by simpa using h2), if_pos h3]
      · have t1 := product_eq a.natAbs d.natAbs (abs_lt ia) (abs_lt id)
        have t3 := product_eq b.natAbs c.natAbs (abs_lt ib) (abs_lt ic); have m1 := mag_le la ld; have m3 := mag_le lb lc; have p3 := mag_pos (a := b) (d := c) (by omega) (by omega); (have eR : divR a b c d = red ((decide (a < 0)) != (decide (c < 0))) (a.natAbs * d.natAbs) (b.natAbs * c.natAbs) := by unfold divR; rw [if_pos ⟨h1, h2⟩, if_neg h3]); rw [eR]; obtain ⟨P, hP⟩ : ∃ P, a.natAbs * d.natAbs = P := ⟨_, rfl⟩; obtain ⟨R, hR⟩ : ∃ R, b.natAbs * c.natAbs = R := ⟨_, rfl⟩; rw [hP] at t1 m1 ⊢; rw [hR] at t3 m3 p3 ⊢; refine Ev.step (fun k => ?_) (Ev.bind (f := fun _ (t : Int × Int × Int) => some (t.1, t.2.1, t.2.2)) (reduce_ev _ P R (by omega) (by omega) p3) (Ev.now _)); simp only [r1_Div.j0]; rw [if_neg (by simpa using h2), if_neg h3, size_eq ia, Option.bind_some, size_eq id, Option.bind_some, t1, Option.bind_some, size_eq ib, Option.bind_some, size_eq ic, Option.bind_some, t3, Option.bind_some]
    · have e : divR a b c d = (0, 0, 1) := by unfold divR; rw [if_neg (fun h => h2 h.2)]
      rw [e]; refine ev_some (fun k => ?_); simp only [r1_Div.j0]; rw [if_pos (by simpa using h2)]
  · have e : divR a b c d = (0, 0, 1) := by unfold divR; rw [if_neg (fun h => h1 h.1)]
    rw [e]; refine Ev.congr (fun k => by rw [if_neg (by simpa using h1)]) ?_; refine ev_some (fun k => ?_); simp only [r1_Div.j0]; rw [if_pos trivial]

end Go.Proofs.Ytcbohbeipgcfhaa.Mth

-- Printed by gp.py (a program of this session's own, over the kit's printer) out of the translation; Lean checks it.
namespace Go.Proofs.Ytcbohbeipgcfhaa.G
open Go.Proofs.Ytcbohbeipgcfhaa.Given Go.Proofs.Ytcbohbeipgcfhaa.Short
open Go.RowKit Go.Proofs.YtcbohbeipgcfhaaW.PrintWords Go.Proofs.YtcbohbeipgcfhaaW.PrintLast Go.Proofs.YtcbohbeipgcfhaaW.PrintMore
attribute [local go_sem] max2_int min2_int max_two min_two max_three min_three max_four min_four   -- for this text's walks alone
set_option linter.unusedVariables false
set_option linter.unusedSimpArgs false

/-! ### tp_Small: function 44 -/
def tp_Small.f (k : Nat) (s0_0 : List Int) (s0_1 : Int) : Option (Int × Int × Int) := (tp_Range.f s0_0 s0_1 (-30) 30).bind fun bt505 => ((tp_Range.f s0_0 bt505.2 1 12).bind fun bt507 => ((r1_New.f k bt505.1 bt507.1).bind fun bt509 => (some (bt509.1, bt509.2.1, bt507.2))))
theorem tp_Small.mono : ∀ a0 a1 k, LeO (tp_Small.f k a0 a1) (tp_Small.f (k + 1) a0 a1) := by
 intro a0 a1 k; unfold tp_Small.f
 repeat' first
   | (with_reducible exact r1_New.mono _ _ _)
   | (with_reducible exact LeO.refl _)
   | (with_reducible exact LeO.none _)
   | (with_reducible refine LeO.ite ?_ ?_)
   | (with_reducible refine LeO.bind ?_ (fun _ => ?_))
   | exact r1_New.mono _ _ _
   | exact LeO.none _
   | refine LeO.ite ?_ ?_
   | refine LeO.bind ?_ (fun _ => ?_)
set_option maxHeartbeats 8000000 in
set_option maxRecDepth 100000 in
theorem tp_Small.calls (k : Nat) (g : Nat) (s0_0 : List Int) (s0_1 : Int) (r1 : Int) (r2 : Int) (r3 : Int) (w0 w : World) (hI : IsS53 w0 w g s0_0 s0_1) (hB : Below w0.heap.size w0 w) (h : tp_Small.f k s0_0 s0_1 = some (r1, r2, r3)) :
  Calls Try.prog 44 #[.pointer (some ⟨g, 0, none⟩)] w fun e w' => e = .returned (.agg #[.int .i64 r1, .int .i64 r2]) ∧ IsS53 w0 w' g s0_0 r3 ∧ Below w0.heap.size w0 w' ∧ KeepBut w w' g none := by
 have hu35 := Try.underlying35; have HI0 := Aside0.mk hI; have HK := Aside0.mk (KeepBut.refl w g none); have HL := Aside0.mk hB.size; clear hI; have HW0 := Aside0.mk hB.size; have HB := Aside0.mk hB; clear hB; have H : ((tp_Range.f s0_0 s0_1 (-30) 30).bind fun bt505 => ((tp_Range.f s0_0 bt505.2 1 12).bind fun bt507 => ((r1_New.f k bt505.1 bt507.1).bind fun bt509 => (some (bt509.1, bt509.2.1, bt507.2))))) = some (r1, r2, r3) := h; clear h; replace H := Option.bind_eq_some_iff.mp H; obtain ⟨⟨t505, t506⟩, A20, H⟩ := H; (try dsimp only at H); have A2 := Aside0.mk A20; clear A20; replace H := Option.bind_eq_some_iff.mp H; obtain ⟨⟨t507, t508⟩, A30, H⟩ := H; (try dsimp only at H); have A3 := Aside0.mk A30; clear A30; replace H := Option.bind_eq_some_iff.mp H; obtain ⟨⟨t509, t510, t511⟩, A40, H⟩ := H; (try dsimp only at H); have A4 := Aside0.mk A40; clear A40; simp only [Option.some.injEq, Prod.mk.injEq] at H; obtain ⟨rfl, rfl, rfl⟩ := H; (go_enter Try.func44, Try.ntmps44); (go_wp2_with (first | ((with_reducible refine gate_dst (N := 2) rfl ?_); refine bx (N := 2) (cs := #[.int .i64 0, .int .i64 0]) (t := 35) ?_; intro gb504 hg w5 hbox hb; have BK504 := Aside0.mk (hbox); have GW504 := Aside0.mk ((by rw [hg]; exact (keep_size (w := w) (g := g) (row := none) (by repeat (first | (with_reducible first | exact HK.out | apply KeepBut.set_ | apply keep_drewN | apply keep_drew | apply keep_alloc) | exact HK.out))) : w.heap.size ≤ gb504)); have GE504 := Aside0.mk ((Nat.le_trans HW0.out (by rw [hg]; exact (keep_size (w := w) (g := g) (row := none) (by repeat (first | (with_reducible first | exact HK.out | apply KeepBut.set_ | apply keep_drewN | apply keep_drew | apply keep_alloc) | exact HK.out))) : w.heap.size ≤ gb504) : w0.heap.size ≤ gb504)); have NB0_504 := Aside0.mk ((by rw [hg]; exact Nat.ne_of_lt (IsS53.lt (show IsS53 w0 _ g s0_0 s0_1 from by repeat (first | (with_reducible first | exact HI0.out | apply IsS53.alloc | apply IsS53.drewN | apply IsS53.drew | apply IsS53.set_1) | exact HI0.out))) : g ≠ gb504)); have NB504_0 := Aside0.mk ((by rw [hg]; exact Nat.ne_of_gt (IsS53.lt (show IsS53 w0 _ g s0_0 s0_1 from by repeat (first | (with_reducible first | exact HI0.out | apply IsS53.alloc | apply IsS53.drewN | apply IsS53.drew | apply IsS53.set_1) | exact HI0.out))) : gb504 ≠ g)); replace HI0 := Aside0.mk (IsS53.below (by repeat (first | (with_reducible first | exact HI0.out | apply IsS53.alloc | apply IsS53.drewN | apply IsS53.drew | apply IsS53.set_1) | exact HI0.out)) hb); replace HK := Aside0.mk (KeepBut.trans (by repeat (first | (with_reducible first | exact HK.out | apply KeepBut.set_ | apply keep_drewN | apply keep_drew | apply keep_alloc) | exact HK.out)) (KeepBut.of_below hb g none) (.inl rfl)); replace HB := Aside0.mk (below_step (by repeat (first | (with_reducible first | exact HB.out | apply below_alloc | apply pw_below_drewN | apply below_drew1 | refine below_set ?_ (IsS53.ge HI0.out)) | exact HB.out)) hb); clear hb hbox hg) | ((with_reducible refine gate_callee (f := 47) rfl ?_); refine gl (some 7) Try.func47 #[.pointer (some ⟨g, 0, none⟩), .int .i64 (-30), .int .i64 30] ?_; (with_reducible refine (tp_Range.calls g s0_0 s0_1 (-30) 30 t505 t506 w0 _ ?side1 ?side2 A2.out).mono ?_); (case side1 => repeat (first | (with_reducible first | exact HI0.out | apply IsS53.alloc | apply IsS53.drewN | apply IsS53.drew | apply IsS53.set_1 | refine IsS53.far ?_ NB0_504.out _) | exact HI0.out)); (case side2 => repeat (first | (with_reducible first | exact HB.out | apply below_alloc | apply pw_below_drewN | apply below_drew1 | refine below_set ?_ (IsS53.ge HI0.out) | refine below_set ?_ GE504.out) | exact HB.out)); rintro e w6 ⟨rfl, hi, hb, hk⟩; refine ⟨_, rfl, ?_⟩; replace BK504 := Aside0.mk (KeepBut.blk hk (g' := gb504) (o := .cells #[.int .i64 0, .int .i64 0] 35 (0, 0)) (bq BK504) NB504_0.out (by simp)); replace HK := Aside0.mk (KeepBut.trans (by repeat (first | (with_reducible first | exact HK.out | apply KeepBut.set_ | apply keep_drewN | apply keep_drew | apply keep_alloc | refine keep_far ?_ GW504.out _) | exact HK.out)) hk (.inl rfl)); replace HB := Aside0.mk (hb); replace HI0 := Aside0.mk (hi); (try clear hb); (try clear hb2); (try clear hk); (try clear hi)) | ((with_reducible refine gate_callee (f := 47) rfl ?_); refine gl (some 9) Try.func47 #[.pointer (some ⟨g, 0, none⟩), .int .i64 1, .int .i64 12] ?_; (with_reducible refine (tp_Range.calls g s0_0 t506 1 12 t507 t508 w0 _ ?side1 ?side2 A3.out).mono ?_); (case side1 => repeat (first | (with_reducible first | exact HI0.out | apply IsS53.alloc | apply IsS53.drewN | apply IsS53.drew | apply IsS53.set_1 | refine IsS53.far ?_ NB0_504.out _) | exact HI0.out)); (case side2 => repeat (first | (with_reducible first | exact HB.out | apply below_alloc | apply pw_below_drewN | apply below_drew1 | refine below_set ?_ (IsS53.ge HI0.out) | refine below_set ?_ GE504.out) | exact HB.out)); rintro e w7 ⟨rfl, hi, hb, hk⟩; refine ⟨_, rfl, ?_⟩; replace BK504 := Aside0.mk (KeepBut.blk hk (g' := gb504) (o := .cells #[.int .i64 0, .int .i64 0] 35 (0, 0)) (bq BK504) NB504_0.out (by simp)); replace HK := Aside0.mk (KeepBut.trans (by repeat (first | (with_reducible first | exact HK.out | apply KeepBut.set_ | apply keep_drewN | apply keep_drew | apply keep_alloc | refine keep_far ?_ GW504.out _) | exact HK.out)) hk (.inl rfl)); replace HB := Aside0.mk (hb); replace HI0 := Aside0.mk (hi); (try clear hb); (try clear hb2); (try clear hk); (try clear hi)) | ((with_reducible refine gate_callee (f := 23) rfl ?_); refine gl (some 10) Try.func23 #[.int .i64 t505, .int .i64 t507] ?_; (with_reducible refine (r1_New.calls k t505 t507 t509 t510 t511 _ A4.out).mono ?_); rintro e w8 ⟨rfl, hb⟩; refine ⟨_, rfl, ?_⟩; replace HI0 := Aside0.mk (IsS53.below (by repeat (first | (with_reducible first | exact HI0.out | apply IsS53.alloc | apply IsS53.drewN | apply IsS53.drew | apply IsS53.set_1 | refine IsS53.far ?_ NB0_504.out _) | exact HI0.out)) hb); replace BK504 := kb BK504 hb; replace HK := Aside0.mk (KeepBut.trans (by repeat (first | (with_reducible first | exact HK.out | apply KeepBut.set_ | apply keep_drewN | apply keep_drew | apply keep_alloc | refine keep_far ?_ GW504.out _) | exact HK.out)) (KeepBut.of_below hb g none) (.inl rfl)); replace HB := Aside0.mk (below_step (by repeat (first | (with_reducible first | exact HB.out | apply below_alloc | apply pw_below_drewN | apply below_drew1 | refine below_set ?_ (IsS53.ge HI0.out) | refine below_set ?_ GE504.out) | exact HB.out)) hb); (try clear hb); (try clear hb2); (try clear hk); (try clear hi)) | ((with_reducible refine gate_dst (N := 3) rfl ?_); refine bx (N := 3) (cs := #[.int .i64 0, .int .i64 0]) (t := 35) ?_; intro gb512 hg w9 hbox hb; have BK512 := Aside0.mk (hbox); have GW512 := Aside0.mk ((by rw [hg]; exact (keep_size (w := w) (g := g) (row := none) (by repeat (first | (with_reducible first | exact HK.out | apply KeepBut.set_ | apply keep_drewN | apply keep_drew | apply keep_alloc | refine keep_far ?_ GW504.out _) | exact HK.out))) : w.heap.size ≤ gb512)); have GE512 := Aside0.mk ((Nat.le_trans HW0.out (by rw [hg]; exact (keep_size (w := w) (g := g) (row := none) (by repeat (first | (with_reducible first | exact HK.out | apply KeepBut.set_ | apply keep_drewN | apply keep_drew | apply keep_alloc | refine keep_far ?_ GW504.out _) | exact HK.out))) : w.heap.size ≤ gb512) : w0.heap.size ≤ gb512)); have NB504_512 := nl BK504 hg; have NB512_504 := nr BK504 hg; have NB0_512 := Aside0.mk ((by rw [hg]; exact Nat.ne_of_lt (IsS53.lt (show IsS53 w0 _ g s0_0 t508 from by repeat (first | (with_reducible first | exact HI0.out | apply IsS53.alloc | apply IsS53.drewN | apply IsS53.drew | apply IsS53.set_1 | refine IsS53.far ?_ NB0_504.out _) | exact HI0.out))) : g ≠ gb512)); have NB512_0 := Aside0.mk ((by rw [hg]; exact Nat.ne_of_gt (IsS53.lt (show IsS53 w0 _ g s0_0 t508 from by repeat (first | (with_reducible first | exact HI0.out | apply IsS53.alloc | apply IsS53.drewN | apply IsS53.drew | apply IsS53.set_1 | refine IsS53.far ?_ NB0_504.out _) | exact HI0.out))) : gb512 ≠ g)); replace HI0 := Aside0.mk (IsS53.below (by repeat (first | (with_reducible first | exact HI0.out | apply IsS53.alloc | apply IsS53.drewN | apply IsS53.drew | apply IsS53.set_1 | refine IsS53.far ?_ NB0_504.out _) | exact HI0.out)) hb); replace BK504 := kb BK504 hb; replace HK := Aside0.mk (KeepBut.trans (by repeat (first | (with_reducible first | exact HK.out | apply KeepBut.set_ | apply keep_drewN | apply keep_drew | apply keep_alloc | refine keep_far ?_ GW504.out _) | exact HK.out)) (KeepBut.of_below hb g none) (.inl rfl)); replace HB := Aside0.mk (below_step (by repeat (first | (with_reducible first | exact HB.out | apply below_alloc | apply pw_below_drewN | apply below_drew1 | refine below_set ?_ (IsS53.ge HI0.out) | refine below_set ?_ GE504.out) | exact HB.out)) hb); clear hb hbox hg; obtain ⟨hnb10, hnc10⟩ := n2 NB512_504; obtain ⟨hnb11, hnc11⟩ := n2 NB512_0; have hcz12_0 : w9.cell? ⟨gb512, 0, none⟩ = some (.int .i64 0) := bc BK512 0; have hcz12_1 : w9.cell? ⟨gb512, 1, none⟩ = some (.int .i64 0) := bc BK512 1; have hfz12_0 := blk_frozen BK512.out 0; have hfz12_1 := blk_frozen BK512.out 1; obtain ⟨hnb13, hnc13⟩ := n2 NB504_0; have hcz14_0 : w9.cell? ⟨gb504, 0, none⟩ = some (.int .i64 0) := bc BK504 0; have hcz14_1 : w9.cell? ⟨gb504, 1, none⟩ = some (.int .i64 0) := bc BK504 1; have hfz14_0 := blk_frozen BK504.out 0; have hfz14_1 := blk_frozen BK504.out 1))); refine bodyPost_ret (results_cell_row rfl _ _ gb504 35 #[.int .i64 t509, .int .i64 t510] (0, 0) _ rfl (by refine pe ?_; refine blk_put (cs := #[.int .i64 t509, .int .i64 0]) ?_ 1 _ rfl; refine pe ?_; refine blk_put (cs := #[.int .i64 0, .int .i64 0]) ?_ 0 _ rfl; refine pe ?_; refine blk_far ?_ NB504_512.out _; refine pe ?_; refine blk_far ?_ NB504_512.out _; refine pe ?_; exact BK504.out) Try.underlying35 rfl (by kernel_rfl)) rfl ?_; exact ⟨by first | rfl | (simp [errW_none, errW_some] <;> rfl) | (simp [*, errW_none, errW_some] <;> rfl), by repeat (first | (with_reducible first | exact HI0.out | apply IsS53.alloc | apply IsS53.drewN | apply IsS53.drew | apply IsS53.set_1 | refine IsS53.far ?_ NB0_504.out _ | refine IsS53.far ?_ NB0_512.out _) | exact HI0.out), by repeat (first | (with_reducible first | exact HB.out | apply below_alloc | apply pw_below_drewN | apply below_drew1 | refine below_set ?_ (IsS53.ge HI0.out) | refine below_set ?_ GE504.out | refine below_set ?_ GE512.out) | exact HB.out), by repeat (first | (with_reducible first | exact HK.out | apply KeepBut.set_ | apply keep_drewN | apply keep_drew | apply keep_alloc | refine keep_far ?_ GW504.out _ | refine keep_far ?_ GW512.out _) | exact HK.out)⟩

end Go.Proofs.Ytcbohbeipgcfhaa.G

/- What the tape of drawn numbers hands out: each reading comes to an end, keeps the tape in its bounds, and its numbers lie where they should. -/
namespace Go.Proofs.Ytcbohbeipgcfhaa.Mth
open Go.RowKit Go.Proofs.Ytcbohbeipgcfhaa.G Go.Proofs.Ytcbohbeipgcfhaa.Given Go.Proofs.YtcbohbeipgcfhaaW.PrintWords Go.Proofs.YtcbohbeipgcfhaaW.PrintLast Go.Proofs.YtcbohbeipgcfhaaW.PrintMore
set_option linter.unusedVariables false

/-- the tape and the place on it are in bounds -/
def TapeOk (t : List Int) (p : Int) : Prop := (t.length ≤ 600 ∧ ∀ x ∈ t, I64 x) ∧ 0 ≤ p ∧ p ≤ 600
theorem new_ok {l : List Int} (h : ∀ x ∈ l, (Lit.int .i64 x).wf = true) : ∃ t, mk_New.f l = some (t, 0) ∧ TapeOk t 0 := by
  unfold mk_New.f
  by_cases h6 : (l.length : Int) > 600
  · rw [if_pos h6, if_pos (by omega)]
    exact ⟨_, rfl, ⟨by rw [List.length_take]; omega, fun x hx => I64.of (h x (List.mem_of_mem_take hx))⟩, by omega⟩
  · rw [if_neg h6]
    exact ⟨_, rfl, ⟨by omega, fun x hx => I64.of (h x hx)⟩, by omega⟩
theorem raw_ok {t : List Int} {p : Int} (h : TapeOk t p) : ∃ x p', tp_Raw.f t p = some (x, p') ∧ TapeOk t p' ∧ I64 x := by
  obtain ⟨⟨h1, h2⟩, h3, h4⟩ := h; (have e : wrap64 ((wrap64 (p + 1)) - 1) = p := by unfold wrap64; omega); (have e2 : wrap64 (p + 1) = p + 1 := by unfold wrap64; omega); unfold tp_Raw.f; rw [e, e2]
  by_cases h5 : p ≥ (t.length : Int)
  · rw [if_pos h5]; exact ⟨_, _, rfl, ⟨⟨h1, h2⟩, h3, h4⟩, by unfold I64; omega⟩
  · rw [if_neg h5, if_pos h3, if_pos (by omega)]
    refine ⟨_, _, rfl, ⟨⟨h1, h2⟩, by omega, by omega⟩, ?_⟩; (have hl : p.toNat < t.length := by omega); (have e3 : rd t p = t[p.toNat] := by simp [rd, List.getElem?_eq_getElem hl]); rw [e3]; exact h2 _ (List.getElem_mem hl)
theorem cut_ok {a n : Int} (ha : I64 a) (hn : 1 ≤ n) (hn2 : I64 n) : ∃ x, mk_Cut.f a n = some x ∧ 0 ≤ x ∧ x < n := by
  unfold mk_Cut.f; rw [if_neg (by omega), if_neg (by omega)]; have h1 := Int.tmod_lt_of_pos a (show 0 < n by omega)
  have h2 : -n < Int.tmod a n := by
    have := Int.tmod_lt_of_pos (-a) (show 0 < n by omega); rw [Int.neg_tmod] at this; omega
  unfold I64 at hn2
  split
  · refine ⟨_, rfl, ?_⟩; unfold wrap64; omega
  · exact ⟨_, rfl, by omega⟩
theorem next_ok {t : List Int} {p n : Int} (h : TapeOk t p) (hn : 1 ≤ n) (hn2 : I64 n) : ∃ x p', tp_Next.f t p n = some (x, p') ∧ TapeOk t p' ∧ 0 ≤ x ∧ x < n := by
  obtain ⟨y, p', e, h', hy⟩ := raw_ok h; obtain ⟨x, e2, hx⟩ := cut_ok hy hn hn2; refine ⟨x, p', ?_, h', hx⟩; unfold tp_Next.f; rw [e, Option.bind_some, e2]; rfl
theorem range_ok {t : List Int} {p lo hi : Int} (h : TapeOk t p) (h1 : lo ≤ hi) (h2 : -1000000 ≤ lo) (h3 : hi ≤ 1000000) : ∃ x p', tp_Range.f t p lo hi = some (x, p') ∧ TapeOk t p' ∧ lo ≤ x ∧ x ≤ hi := by
  (have e : wrap64 ((wrap64 (hi - lo)) + 1) = hi - lo + 1 := by unfold wrap64; omega); obtain ⟨x, p', e2, h', hx⟩ := next_ok h (n := hi - lo + 1) (by omega) (by unfold I64; omega); refine ⟨lo + x, p', ?_, h', by omega⟩; unfold tp_Range.f; rw [e, e2, Option.bind_some, show wrap64 (lo + x) = lo + x from by unfold wrap64; omega]
theorem one_ok {t : List Int} {p n : Int} (h : TapeOk t p) (hn : 1 ≤ n) (hn2 : I64 n) : ∃ b p', tp_One.f t p n = some (b, p') ∧ TapeOk t p' := by
  obtain ⟨x, p', e2, h', hx⟩ := next_ok h hn hn2; refine ⟨(x == (wrap64 (n - 1))), p', ?_, h'⟩; unfold tp_One.f; rw [e2, Option.bind_some]
theorem pick_ok {t : List Int} {p : Int} {l : List Int} (h : TapeOk t p) (hl : 0 < l.length) (hl2 : l.length ≤ 1000000) : ∃ x p', tp_Pick.f t p l = some (x, p') ∧ TapeOk t p' ∧ x ∈ l := by
  obtain ⟨x, p', e2, h', hx0, hx1⟩ := next_ok h (n := (l.length : Int)) (by omega) (by unfold I64; omega); refine ⟨rd l x, p', ?_, h', ?_⟩
  · unfold tp_Pick.f
    rw [e2, Option.bind_some, if_pos hx0, if_pos hx1]
  · have hl : x.toNat < l.length := by omega
    (have e3 : rd l x = l[x.toNat] := by simp [rd, List.getElem?_eq_getElem hl]); rw [e3]; exact List.getElem_mem hl
theorem spoil_ok {t : List Int} {p a n : Int} (h : TapeOk t p) (hn : 1 ≤ n) (hn2 : I64 n) : ∃ x p', tp_Spoil.f t p a n = some (x, p') ∧ TapeOk t p' := by
  obtain ⟨b, p1, e1, h1⟩ := one_ok h hn hn2; unfold tp_Spoil.f; rw [if_pos (by omega), e1, Option.bind_some]
  cases b with
  | false => rw [if_neg (by simp)]; exact ⟨_, _, rfl, h1⟩
  | true =>
    rw [if_pos rfl]; obtain ⟨x, p2, e2, h2, _⟩ := pick_ok (l := ([(-1), 0, 1, 2, 31, 32, 99, 100, 200, 201, 9999, 10000, 1000000, 1000001, 1152921504606846976, 1152921504606846977, (-1152921504606846976), 9223372036854775807, (-9223372036854775808)] : List Int)) h1 (by decide) (by decide); unfold tp_Wild.f; rw [e2, Option.bind_some, Option.bind_some]; exact ⟨_, _, rfl, h2⟩

/-- a reduced fraction is valid -/
theorem red_ok {s : Bool} {n d : Nat} {a b : Int} (hd : 0 < d) (h : red s n d = (a, b, 0)) : okR a b ∧ a.natAbs = n / Nat.gcd n d ∧ b.natAbs = d / Nat.gcd n d := by
  unfold red at h; have hg : 0 < Nat.gcd n d := Nat.gcd_pos_of_pos_right _ hd; have hc := Nat.coprime_div_gcd_div_gcd hg; have h1 : 0 < d / Nat.gcd n d := Nat.div_pos (Nat.gcd_le_right _ hd) hg; obtain ⟨X, hX⟩ : ∃ X, n / Nat.gcd n d = X := ⟨_, rfl⟩; obtain ⟨Y, hY⟩ : ∃ Y, d / Nat.gcd n d = Y := ⟨_, rfl⟩; rw [hX, hY] at h hc ⊢; rw [hY] at h1
  split at h
  · rename_i hb
    simp only [Prod.mk.injEq] at h; obtain ⟨h2, h3, _⟩ := h; (have ea : a.natAbs = X := by rw [← h2]; split <;> omega); (have eb : b.natAbs = Y := by rw [← h3]; omega); refine ⟨⟨?_, ?_⟩, ea, eb⟩
    · refine ⟨by omega, by omega, ?_, ?_⟩ <;> omega
    · rw [ea, eb]; exact hc
  · simp at h
theorem red_fits (s : Bool) (n d : Nat) (hn : n ≤ 1152921504606846976) (hd : d ≤ 1152921504606846976) : ∃ a b, red s n d = (a, b, 0) := by
  unfold red; rw [if_pos ⟨Nat.le_trans (Nat.div_le_self _ _) hn, Nat.le_trans (Nat.div_le_self _ _) hd⟩]; exact ⟨_, _, rfl⟩
theorem newR_ok {x y a b : Int} (h : newR x y = (a, b, 0)) : okR a b ∧ a.natAbs ≤ x.natAbs ∧ b.natAbs ≤ y.natAbs := by
  unfold newR at h
  split at h
  · simp at h
  · obtain ⟨h1, h2, h3⟩ := red_ok (by omega) h
    exact ⟨h1, by rw [h2]; exact Nat.div_le_self _ _, by rw [h3]; exact Nat.div_le_self _ _⟩

theorem small_ok {t : List Int} {p : Int} (h : TapeOk t p) : ∃ a b p', Ev (fun k => tp_Small.f k t p) (a, b, p') ∧ TapeOk t p' ∧ okR a b ∧ a.natAbs ≤ 30 ∧ b.natAbs ≤ 12 := by
  obtain ⟨x, p1, e1, h1, x0, x1⟩ := range_ok (lo := -30) (hi := 30) h (by omega) (by omega) (by omega); obtain ⟨y, p2, e2, h2, y0, y1⟩ := range_ok (lo := 1) (hi := 12) h1 (by omega) (by omega) (by omega); (have hr : ∃ a b, newR x y = (a, b, 0) := by unfold newR; rw [if_neg (by omega)]; exact red_fits _ _ _ (by omega) (by omega)); obtain ⟨a, b, hr⟩ := hr; obtain ⟨o1, o2, o3⟩ := newR_ok hr; refine ⟨a, b, p2, ?_, h2, o1, by omega, by omega⟩; refine Ev.congr (fun k => by unfold tp_Small.f; rw [e1, Option.bind_some, e2, Option.bind_some]) ?_; have := fnew_ev (a := x) (b := y) (by unfold I64; omega) (by unfold I64; omega); rw [hr] at this; exact Ev.bind (f := fun _ (t : Int × Int × Int) => some (t.1, t.2.1, p2)) this (Ev.now _)

theorem all_i64 {l : List Int} (h : l.all (fun x => decide (-9223372036854775808 ≤ x) && decide (x ≤ 9223372036854775807)) = true) {x : Int} (hx : x ∈ l) : I64 x := by
  have := List.all_eq_true.1 h x hx
  simpa [I64] using this
theorem okR_one : okR 1 1 := by decide
theorem ratio_j_ok {t : List Int} {p x y : Int} (h : TapeOk t p) (hx : I64 x) (hy : I64 y) : ∃ a b p', Ev (fun k => tp_Ratio.j0 k x y t p) (a, b, p') ∧ TapeOk t p' ∧ okR a b := by
  have key (y2 : Int) (hy2 : I64 y2) (p2 : Int) (h2 : TapeOk t p2) : ∃ a b p', Ev (fun k => (r1_New.f k x y2).bind fun bt => (if bt.2.2 = 0 then (some (bt.1, bt.2.1, p2)) else (some (1, 1, p2)))) (a, b, p') ∧ TapeOk t p' ∧ okR a b := by
    have e := fnew_ev hx hy2; obtain ⟨u, v, w, hn⟩ : ∃ u v w, newR x y2 = (u, v, w) := ⟨_, _, _, rfl⟩; rw [hn] at e
    by_cases hw : w = 0
    · subst hw
      exact ⟨u, v, p2, Ev.bind (f := fun _ (bt : Int × Int × Int) => (if bt.2.2 = 0 then (some (bt.1, bt.2.1, p2)) else (some (1, 1, p2)))) e (Ev.congr (fun k => by rw [if_pos rfl]) (Ev.now _)), h2, (newR_ok hn).1⟩
    · exact ⟨1, 1, p2, Ev.bind (f := fun _ (bt : Int × Int × Int) => (if bt.2.2 = 0 then (some (bt.1, bt.2.1, p2)) else (some (1, 1, p2)))) e (Ev.congr (fun k => by rw [if_neg hw]) (Ev.now _)), h2, okR_one⟩
  obtain ⟨b, p1, e1, h1⟩ := one_ok (n := 4) h (by omega) (by unfold I64; omega)
  cases b with
  | false =>
    obtain ⟨a, b, p', e, r⟩ := key y hy p1 h1; refine ⟨a, b, p', Ev.step (fun k => ?_) e, r⟩; simp only [tp_Ratio.j0]; rw [e1, Option.bind_some, if_neg (by simp)]
  | true =>
    obtain ⟨z, p2, e2, h2, hz⟩ := pick_ok (l := ([1152921504606846976, 1152921504606846975, 576460752303423488, 1073741824, 1000000000, 1000000007, 432345564227567616, 1152921504606846869] : List Int)) h1 (by decide) (by decide); obtain ⟨a, b, p', e, r⟩ := key z (all_i64 (by decide) hz) p2 h2; refine ⟨a, b, p', Ev.step (fun k => ?_) e, r⟩; simp only [tp_Ratio.j0]; rw [e1, Option.bind_some, if_pos rfl, e2, Option.bind_some]
theorem ratio_ok {t : List Int} {p : Int} (h : TapeOk t p) : ∃ a b p', Ev (fun k => tp_Ratio.f k t p) (a, b, p') ∧ TapeOk t p' ∧ okR a b := by
  obtain ⟨x, p1, e1, h1, x0, x1⟩ := range_ok (lo := -9) (hi := 9) h (by omega) (by omega) (by omega); obtain ⟨y, p2, e2, h2, y0, y1⟩ := range_ok (lo := 1) (hi := 9) h1 (by omega) (by omega) (by omega); obtain ⟨b, p3, e3, h3⟩ := one_ok (n := 4) h2 (by omega) (by unfold I64; omega); have hy : I64 y := by unfold I64; omega
  cases b with
  | false =>
    obtain ⟨a, b, p', e, r⟩ := ratio_j_ok (x := x) (y := y) h3 (by unfold I64; omega) hy; refine ⟨a, b, p', Ev.congr (fun k => ?_) e, r⟩; unfold tp_Ratio.f; rw [e1, Option.bind_some, e2, Option.bind_some, e3, Option.bind_some, if_neg (by simp)]
  | true =>
    obtain ⟨z, p4, e4, h4, hz⟩ := pick_ok (l := ([1152921504606846976, 1152921504606846975, (-1152921504606846976), 576460752303423488, 1073741824, 3486784401, (-1000000007), 1152921504606846883] : List Int)) h3 (by decide) (by decide); obtain ⟨a, b, p', e, r⟩ := ratio_j_ok (x := z) (y := y) h4 (all_i64 (by decide) hz) hy; refine ⟨a, b, p', Ev.congr (fun k => ?_) e, r⟩; unfold tp_Ratio.f; rw [e1, Option.bind_some, e2, Option.bind_some, e3, Option.bind_some, if_pos rfl, e4, Option.bind_some]
theorem loose_ok {t : List Int} {p : Int} (h : TapeOk t p) : ∃ a b p', Ev (fun k => tp_Loose.f k t p) (a, b, p') ∧ TapeOk t p' := by
  obtain ⟨a, b, p1, e1, h1, _⟩ := ratio_ok h; obtain ⟨c, p2, e2, h2⟩ := one_ok (n := 3) h1 (by omega) (by unfold I64; omega)
  cases c with
  | false =>
    refine ⟨a, b, p2, Ev.congr (fun k => by unfold tp_Loose.f; rfl) (Ev.bind e1 (Ev.congr (fun k => ?_) (Ev.now _))), h2⟩; rw [e2, Option.bind_some, if_neg (by simp)]
  | true =>
    obtain ⟨x, p3, e3, h3, x0, x1⟩ := range_ok (lo := -8) (hi := 8) h2 (by omega) (by omega) (by omega); obtain ⟨u, p4, e4, h4⟩ := spoil_ok (a := x) (n := 3) h3 (by omega) (by unfold I64; omega); obtain ⟨y, p5, e5, h5, y0, y1⟩ := range_ok (lo := -1) (hi := 8) h4 (by omega) (by omega) (by omega); obtain ⟨v, p6, e6, h6⟩ := spoil_ok (a := y) (n := 3) h5 (by omega) (by unfold I64; omega); refine ⟨u, v, p6, Ev.congr (fun k => by unfold tp_Loose.f; rfl) (Ev.bind e1 (Ev.congr (fun k => ?_) (Ev.now _))), h6⟩; rw [e2, Option.bind_some, if_pos rfl, e3, Option.bind_some, e4, Option.bind_some, e5, Option.bind_some, e6, Option.bind_some]
end Go.Proofs.Ytcbohbeipgcfhaa.Mth

/- The examples of the chapter: what every law asks beside its own matter. -/
namespace Go.Proofs.Ytcbohbeipgcfhaa.Mth
open Go.RowKit Go.Proofs.Ytcbohbeipgcfhaa.G Go.Proofs.Ytcbohbeipgcfhaa.Given Go.Proofs.YtcbohbeipgcfhaaW.PrintWords Go.Proofs.YtcbohbeipgcfhaaW.PrintLast Go.Proofs.YtcbohbeipgcfhaaW.PrintMore
theorem app_ex : ratio_Apportion.f 3 [5, 3, 0] = some ([2, 1, 0], 0) := by decide +kernel
theorem awake_ev : Ev (fun k => awardingbodylaw01_awake.f k) true := by
  have h := rnew_ev (a := 6) (b := -4) (by unfold I64; omega) (by unfold I64; omega); rw [show newR 6 (-4) = (-3, 2, 0) from by decide +kernel] at h; refine Ev.congr (fun k => by unfold awardingbodylaw01_awake.f; rfl) ?_; refine Ev.bind h ?_; refine ev_some (fun k => ?_); rw [app_ex]
  decide
/-- a law's last step: the chapter's examples -/
theorem awake_end : Ev (fun k => (awardingbodylaw01_awake.f k).bind fun t => some t) true := Ev.bind (f := fun _ t => some t) awake_ev (Ev.now _)
end Go.Proofs.Ytcbohbeipgcfhaa.Mth

/- RatioMultiplies: for every tape Mul and Div of the program and of the reference give the same. -/
namespace Go.Proofs.Ytcbohbeipgcfhaa.Pure
open Go.RowKit Go.Proofs.Ytcbohbeipgcfhaa.G Go.Proofs.Ytcbohbeipgcfhaa.Mth Go.Proofs.YtcbohbeipgcfhaaW.PrintWords Go.Proofs.YtcbohbeipgcfhaaW.PrintLast
theorem RatioMultiplies : awardingbodylaw01_RatioMultiplies.Pure := by
  intro l _ _ hl; obtain ⟨t, e0, h0⟩ := new_ok hl; obtain ⟨a, b, p1, e1, h1⟩ := loose_ok h0; obtain ⟨c, d, p2, e2, h2⟩ := loose_ok h1
  have h : Ev (fun k => awardingbodylaw01_RatioMultiplies.f k l) true := by
    refine Ev.congr (fun k => by unfold awardingbodylaw01_RatioMultiplies.f; rw [e0, Option.bind_some]) ?_; refine Ev.bind e1 ?_; refine Ev.bind e2 ?_; refine Ev.bind (rmul_ev a b c d) ?_; refine Ev.bind (fmul_ev a b c d) ?_; refine Ev.bind (rdiv_ev a b c d) ?_; refine Ev.bind (fdiv_ev a b c d) ?_; refine Ev.congr (fun k => ?_) awake_end; simp
  obtain ⟨K, hK⟩ := h; exact ⟨K, hK K (Nat.le_refl _)⟩
end Go.Proofs.Ytcbohbeipgcfhaa.Pure
