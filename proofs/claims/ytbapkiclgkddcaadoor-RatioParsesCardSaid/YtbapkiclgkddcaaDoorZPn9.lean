/- Texts of this claim laid together: MathE, Gf43, MathF, MathRb, MathRc. -/
import Derived.Test.YtbapkiclgkddcaaDoorShortC
import Derived.Test.YtbapkiclgkddcaaDoorZPn7
import Derived.Test.YtbapkiclgkddcaaDoorZPn8
import Derived.Test.YtbapkiclgkddcaaDoorG0
import Derived.Test.YtbapkiclgkddcaaDoorZPn2
import Derived.Test.YtbapkiclgkddcaaDoorZPn1
import Derived.Test.YtbapkiclgkddcaaDoorZPn6
import Derived.Test.YtbapkiclgkddcaaDoorZPn3
import Derived.Lib.Mul64
/- Products, sums and comparisons of signed numbers of 128 bits; Compare of the program tells what cmpR tells, for all numbers. -/
namespace Go.Proofs.YtbapkiclgkddcaaDoor.Mth
open Go.RowKit Go.Proofs.YtbapkiclgkddcaaDoor.G Go.Proofs.YtbapkiclgkddcaaDoor.Given Go.Proofs.YtbapkiclgkddcaaDoorW.PrintWords Go.Proofs.YtbapkiclgkddcaaDoorW.PrintLast Go.Proofs.YtbapkiclgkddcaaDoorW.PrintMore
set_option linter.unusedVariables false

theorem divN (a : Nat) : (a : Int) / 4294967296 = ((a / 4294967296 : Nat) : Int) := by omega
theorem mulN (a b : Nat) : (a : Int) * (b : Int) = ((a * b : Nat) : Int) := (Int.natCast_mul a b).symm
theorem addN (a b : Nat) : (a : Int) + (b : Int) = ((a + b : Nat) : Int) := (Int.natCast_add a b).symm
theorem wrapN (a : Nat) (ha : a < 18446744073709551616) : IntKind.u64.wrap (a : Int) = (a : Int) := by rw [IntKind.wrap_u64]; omega
theorem wrapM (a : Nat) : IntKind.u64.wrap (a : Int) = ((a % 18446744073709551616 : Nat) : Int) := by rw [IntKind.wrap_u64]; omega
theorem mul64_eq (x y : Nat) (hx : x < 18446744073709551616) (hy : y < 18446744073709551616) : bits_Mul64.f x y = some (hi (x * y), lo (x * y)) := by
  obtain ⟨bd, bt, bw, hhi⟩ := Lib.mul64_hi x y hx hy; have ba := Lib.half_mul_le (a := x / 4294967296) (b := y / 4294967296) (by omega) (by omega); have bb := Lib.half_mul_le (a := x / 4294967296) (b := y % 4294967296) (by omega) (by omega); have bc := Lib.half_mul_le (a := x % 4294967296) (b := y / 4294967296) (by omega) (by omega); (have ba' : x / 4294967296 * (y / 4294967296) < 18446744073709551616 := by omega); (have bb' : x / 4294967296 * (y % 4294967296) < 18446744073709551616 := by omega); (have bc' : x % 4294967296 * (y / 4294967296) < 18446744073709551616 := by omega); (have bh1 : x / 4294967296 * (y / 4294967296) + (x / 4294967296 * (y % 4294967296) + x % 4294967296 * (y % 4294967296) / 4294967296) / 4294967296 < 18446744073709551616 := by omega); (have bh : x / 4294967296 * (y / 4294967296) + (x / 4294967296 * (y % 4294967296) + x % 4294967296 * (y % 4294967296) / 4294967296) / 4294967296 + ((x / 4294967296 * (y % 4294967296) + x % 4294967296 * (y % 4294967296) / 4294967296) % 4294967296 + x % 4294967296 * (y / 4294967296)) / 4294967296 < 18446744073709551616 := by omega); unfold bits_Mul64.f; simp only [maskN x hx, maskN y hy, divN, mulN, addN, wrapN _ bd, wrapN _ bb', wrapN _ bt, maskN _ bt, wrapN _ bc', wrapN _ bw, wrapN _ ba', wrapN _ bh1, wrapN _ bh, wrapM (x * y)]; rw [hhi]; rfl
theorem times_eq {a : Int} (ha : I64 a) (y : Nat) (hy : y < 18446744073709551616) : ratio_times.f a y = some (decide (a < 0), hi (a.natAbs * y), lo (a.natAbs * y)) := by
  unfold ratio_times.f; rw [abs_eq ha, Option.bind_some, mul64_eq _ y (abs_lt ha) hy]; rfl

theorem hl_inj {a b : Nat} : (hi a = hi b ∧ lo a = lo b) ↔ a = b := by unfold hi lo; omega
def cmpN (a b : Nat) : Int := if a < b then -1 else if a = b then 0 else 1
theorem wcompare_ev (s t : Bool) (a b : Nat) : Ev (fun k => ratio_wide_compare.f k s (hi a) (lo a) t (hi b) (lo b)) (cmpN a b) := by
  have k1 : Ev (fun k => ratio_wide_compare.j1 k (decide (a < b)) s (hi a) (lo a) t (hi b) (lo b)) (cmpN a b) := by
    refine ev_some (fun k => ?_); simp only [ratio_wide_compare.j1, decide_eq_true_eq]; unfold cmpN
    by_cases h : a < b
    · rw [if_pos h, if_pos h]
    · rw [if_neg h, if_neg h]
      by_cases h2 : a = b
      · subst h2; rw [if_pos rfl, if_pos rfl, if_pos rfl]
      · rw [if_neg h2]
        by_cases h3 : hi a = hi b
        · rw [if_pos h3, if_neg (fun h4 => h2 (hl_inj.1 ⟨h3, h4⟩))]
        · rw [if_neg h3]
  by_cases h : hi a = hi b
  · refine Ev.congr (fun k => by unfold ratio_wide_compare.f; rw [if_pos h]) ?_
    refine Ev.step (fun k => ?_) k1; simp only [ratio_wide_compare.j0]; rw [if_neg (by decide), if_pos h, show decide (lo a < lo b) = decide (a < b) from by rw [decide_eq_decide]; unfold hi at h; unfold lo; omega]
  · refine Ev.congr (fun k => by unfold ratio_wide_compare.f; rw [if_neg h]) ?_
    refine Ev.step (fun k => ?_) k1; simp only [ratio_wide_compare.j0]; rw [show decide (hi a < hi b) = decide (a < b) from by rw [decide_eq_decide]; unfold hi at h ⊢; omega]
    by_cases h2 : a < b
    · rw [if_pos (by simpa using h2)]
    · rw [if_neg (by simpa using h2), if_neg h, show decide (a < b) = false from decide_eq_false h2]

/-- the sum of two signed magnitudes -/
def tot (x : Bool) (a : Nat) (y : Bool) (b : Nat) : Bool × Nat := if x = y then (x, a + b) else if b ≤ a then (x, a - b) else (y, b - a)
theorem tot_same {x y : Bool} (a b : Nat) (h : x = y) : tot x a y b = (x, a + b) := by unfold tot; rw [if_pos h]
theorem tot_ge {x y : Bool} {a b : Nat} (h : x ≠ y) (hl : b ≤ a) : tot x a y b = (x, a - b) := by unfold tot; rw [if_neg h, if_pos hl]
theorem tot_lt {x y : Bool} {a b : Nat} (h : x ≠ y) (hl : ¬ b ≤ a) : tot x a y b = (y, b - a) := by unfold tot; rw [if_neg h, if_neg hl]
/-- what Compare tells -/
def cmpR (a b c d : Int) : Int := if okR a b ∧ okR c d then (if a * d < c * b then -1 else if a * d = c * b then 0 else 1) else 0
theorem signed (a d : Int) (hd : 0 ≤ d) : a * d = if a < 0 then -((a.natAbs * d.natAbs : Nat) : Int) else ((a.natAbs * d.natAbs : Nat) : Int) := by
  rw [Int.natCast_mul]; (have e : ((d.natAbs : Nat) : Int) = d := by omega); rw [e]
  split
  · rw [show ((a.natAbs : Nat) : Int) = -a from by omega, Int.neg_mul, Int.neg_neg]
  · rw [show ((a.natAbs : Nat) : Int) = a from by omega]
theorem mag_pos {a d : Int} (ha : a ≠ 0) (hd : d ≠ 0) : 0 < a.natAbs * d.natAbs := Nat.mul_pos (by omega) (by omega)
theorem mag_zero {a d : Int} (ha : a = 0) : a.natAbs * d.natAbs = 0 := by subst ha; exact Nat.zero_mul _
theorem ok_small {a b : Int} (h : okR a b) : I64 a ∧ I64 b ∧ 1 ≤ b ∧ a.natAbs ≤ 1152921504606846976 ∧ b.natAbs ≤ 1152921504606846976 := by
  obtain ⟨⟨h1, h2, h3, h4⟩, _⟩ := h; unfold I64; omega
theorem mag_le {a d : Int} (ha : a.natAbs ≤ 1152921504606846976) (hd : d.natAbs ≤ 1152921504606846976) : a.natAbs * d.natAbs ≤ 1329227995784915872903807060280344576 :=
  Nat.le_trans (Nat.mul_le_mul ha hd) (by decide)
theorem wrap_abs {b : Int} (h : 1 ≤ b) (h2 : b.natAbs ≤ 1152921504606846976) : IntKind.u64.wrap b = (b.natAbs : Int) := by rw [wu]; omega

theorem rcompare_ev (a b c d : Int) : Ev (fun k => ratio_Compare.f k a b c d) (cmpR a b c d) := by
  refine Ev.congr (fun k => by unfold ratio_Compare.f; rfl) ?_; refine Ev.bind (rvalid_ev a b) ?_
  by_cases h1 : okR a b
  · refine Ev.congr (fun k => by rw [if_pos (decide_eq_true h1)]) ?_
    refine Ev.bind (rvalid_ev c d) ?_
    by_cases h2 : okR c d
    · obtain ⟨ia, ib, b1, la, lb⟩ := ok_small h1
      obtain ⟨ic, id, d1, lc, ld⟩ := ok_small h2; have sa := signed a d (by omega); have sc := signed c b (by omega); have pa := @mag_pos a d; have pc := @mag_pos c b; have t1 := times_eq ia d.natAbs (abs_lt id); have t2 := times_eq ic b.natAbs (abs_lt ib); (have eR : cmpR a b c d = (if a * d < c * b then -1 else if a * d = c * b then 0 else 1) := by unfold cmpR; rw [if_pos ⟨h1, h2⟩]); rw [eR]; obtain ⟨X, hX⟩ : ∃ X, a * d = X := ⟨_, rfl⟩; obtain ⟨Y, hY⟩ : ∃ Y, c * b = Y := ⟨_, rfl⟩; rw [hX] at sa; rw [hY] at sc; rw [hX, hY]; obtain ⟨P, hP⟩ : ∃ P, a.natAbs * d.natAbs = P := ⟨_, rfl⟩; obtain ⟨Q, hQ⟩ : ∃ Q, c.natAbs * b.natAbs = Q := ⟨_, rfl⟩; rw [hP] at sa pa t1; rw [hQ] at sc pc t2
      have k2 : Ev (fun k => ratio_Compare.j2 k (decide (0 ≤ a) && decide (c < 0)) (decide (a < 0)) (hi P) (lo P) (decide (c < 0)) (hi Q) (lo Q)) (if 0 ≤ a ∧ c < 0 then 1 else if a < 0 then cmpN Q P else cmpN P Q) := by
        by_cases h3 : 0 ≤ a ∧ c < 0
        · rw [if_pos h3]
          refine ev_some (fun k => ?_); simp only [ratio_Compare.j2]; rw [if_pos (by simpa using h3)]
        · rw [if_neg h3]
          by_cases h4 : a < 0
          · rw [if_pos h4]
            refine Ev.step (fun k => ?_) (Ev.bind (f := fun _ t => some t) (wcompare_ev (decide (c < 0)) (decide (a < 0)) Q P) (Ev.now _)); simp only [ratio_Compare.j2]; rw [if_neg (by simpa using h3), if_pos (decide_eq_true h4)]
          · rw [if_neg h4]
            refine Ev.step (fun k => ?_) (Ev.bind (f := fun _ t => some t) (wcompare_ev (decide (a < 0)) (decide (c < 0)) P Q) (Ev.now _)); simp only [ratio_Compare.j2]; rw [if_neg (by simpa using h3), if_neg (by simpa using h4)]
      have k1 : Ev (fun k => ratio_Compare.j1 k (decide (a < 0) && decide (0 ≤ c)) (decide (a < 0)) (hi P) (lo P) (decide (c < 0)) (hi Q) (lo Q)) (if X < Y then -1 else if X = Y then 0 else 1) := by
        by_cases h3 : a < 0 ∧ 0 ≤ c
        · rw [if_pos (by rw [if_pos h3.1] at sa; rw [if_neg (by omega)] at sc; have := pa (by omega) (by omega); omega)]
          refine ev_some (fun k => ?_); simp only [ratio_Compare.j1]; rw [if_pos (by simpa using h3)]
        · have e : (if X < Y then (-1 : Int) else if X = Y then 0 else 1) = (if 0 ≤ a ∧ c < 0 then 1 else if a < 0 then cmpN Q P else cmpN P Q) := by
            unfold cmpN; (have pc2 : c < 0 → 0 < Q := fun h => pc (by omega) (by omega)); clear pa pc t1 t2 hP hQ hX hY eR k2; repeat' (first | omega | split at sa | split at sc | split)
          rw [e]; refine Ev.step (fun k => ?_) k2; simp only [ratio_Compare.j1]; rw [if_neg (by simpa using h3)]
          by_cases h5 : c < 0
          · rw [if_pos (decide_eq_true h5), show (decide (0 ≤ a) && decide (c < 0)) = !decide (a < 0) from by rw [decide_eq_true h5, Bool.and_true, ← decide_not]; rw [decide_eq_decide]; omega]
          · rw [if_neg (by simpa using h5), show (decide (0 ≤ a) && decide (c < 0)) = false from by rw [decide_eq_false h5, Bool.and_false]]
      refine Ev.step (fun k => ?_) k1; simp only [ratio_Compare.j0]; rw [if_neg (by simpa using h2), wrap_abs d1 ld, wrap_abs b1 lb, t1, t2, Option.bind_some, Option.bind_some]
      by_cases h6 : a < 0
      · rw [if_pos (decide_eq_true h6), show (decide (a < 0) && decide (0 ≤ c)) = !decide (c < 0) from by rw [decide_eq_true h6, Bool.true_and, ← decide_not]; rw [decide_eq_decide]; omega]
      · rw [if_neg (by simpa using h6), show (decide (a < 0) && decide (0 ≤ c)) = false from by rw [decide_eq_false h6, Bool.false_and]]
    · have e : cmpR a b c d = 0 := by unfold cmpR; rw [if_neg (fun h => h2 h.2)]
      rw [e]; refine ev_some (fun k => ?_); simp only [ratio_Compare.j0]; rw [if_pos (by simpa using h2)]
  · have e : cmpR a b c d = 0 := by unfold cmpR; rw [if_neg (fun h => h1 h.1)]
    rw [e]; refine Ev.congr (fun k => by rw [if_neg (by simpa using h1)]) ?_; refine ev_some (fun k => ?_); simp only [ratio_Compare.j0]; rw [if_pos trivial]

theorem cmpR_cases (a b c d : Int) : cmpR a b c d = -1 ∨ cmpR a b c d = 0 ∨ cmpR a b c d = 1 := by
  unfold cmpR; repeat' (first | omega | split)
end Go.Proofs.YtbapkiclgkddcaaDoor.Mth

-- Printed by gp.py (a program of this session's own, over the kit's printer) out of the translation; Lean checks it.
namespace Go.Proofs.YtbapkiclgkddcaaDoor.G
open Go.Proofs.YtbapkiclgkddcaaDoor.Given Go.Proofs.YtbapkiclgkddcaaDoor.Short
open Go.RowKit Go.Proofs.YtbapkiclgkddcaaDoorW.PrintWords Go.Proofs.YtbapkiclgkddcaaDoorW.PrintLast Go.Proofs.YtbapkiclgkddcaaDoorW.PrintMore
attribute [local go_sem] max2_int min2_int max_two min_two max_three min_three max_four min_four   -- for this text's walks alone
set_option linter.unusedVariables false
set_option linter.unusedSimpArgs false

/-! ### ratio_Add: function 43 -/
mutual
def ratio_Add.j0 : Nat → Bool → Int → Int → Int → Int → Option (Int × Int × Int)
 | 0, _, _, _, _, _ => none
 | k + 1, x20, x486000, x486001, x487000, x487001 => if x20 = true then (some (0, 0, 1)) else ((ratio_gcd.f k (IntKind.u64.wrap (x486001)) (IntKind.u64.wrap (x487001))).bind fun t490 => (if t490 = 0 then (none) else ((ratio_times.f x486000 (IntKind.u64.wrap (Int.tdiv (IntKind.u64.wrap (x487001)) t490))).bind fun bt491 => ((ratio_times.f x487000 (IntKind.u64.wrap (Int.tdiv (IntKind.u64.wrap (x486001)) t490))).bind fun bt494 => ((ratio_wide_plus.f k bt491.1 bt491.2.1 bt491.2.2 bt494.1 bt494.2.1 bt494.2.2).bind fun bt497 => (if bt497.2.1 = 0 then (ratio_Add.j1 k t490 (IntKind.u64.wrap (Int.tdiv (IntKind.u64.wrap (x486001)) t490)) (IntKind.u64.wrap (Int.tdiv (IntKind.u64.wrap (x487001)) t490)) (bt497.2.2 == 0) bt497.1 bt497.2.1 bt497.2.2) else (ratio_Add.j1 k t490 (IntKind.u64.wrap (Int.tdiv (IntKind.u64.wrap (x486001)) t490)) (IntKind.u64.wrap (Int.tdiv (IntKind.u64.wrap (x487001)) t490)) false bt497.1 bt497.2.1 bt497.2.2)))))))
def ratio_Add.j1 : Nat → Int → Int → Int → Bool → Bool → Int → Int → Option (Int × Int × Int)
 | 0, _, _, _, _, _, _, _ => none
 | k + 1, x6, x7, x8, x55, x501000, x501001, x501002 => if x55 = true then (some (0, 1, 0)) else ((bits_Rem64.f k x501001 x501002 x6).bind fun t501 => ((ratio_gcd.f k x6 t501).bind fun t502 => (if t502 = 0 then (none) else ((bits_Mul64.f (IntKind.u64.wrap (Int.tdiv x6 t502)) x7).bind fun bt503 => (if bt503.1 = 0 then ((bits_Mul64.f bt503.2 x8).bind fun bt505 => (if bt505.1 = 0 then ((ratio_wide_over.f k x501000 x501001 x501002 t502).bind fun bt507 => ((ratio_lowest.f k bt507.1 bt507.2.1 bt507.2.2 bt505.2).bind fun bt510 => (some (bt510.1, bt510.2.1, bt510.2.2)))) else (some (0, 0, 6)))) else (some (0, 0, 6)))))))
end
def ratio_Add.f (k : Nat) (a0_0 : Int) (a0_1 : Int) (a1_0 : Int) (a1_1 : Int) : Option (Int × Int × Int) := (ratio_Valid.f k a0_0 a0_1).bind fun t488 => (if t488 = true then ((ratio_Valid.f k a1_0 a1_1).bind fun t489 => (ratio_Add.j0 k (!t489) a0_0 a0_1 a1_0 a1_1)) else (ratio_Add.j0 k true a0_0 a0_1 a1_0 a1_1))
theorem ratio_Add.mono_l : ∀ k, (∀ y0 y1 y2 y3 y4, LeO (ratio_Add.j0 k y0 y1 y2 y3 y4) (ratio_Add.j0 (k + 1) y0 y1 y2 y3 y4)) ∧ (∀ y0 y1 y2 y3 y4 y5 y6, LeO (ratio_Add.j1 k y0 y1 y2 y3 y4 y5 y6) (ratio_Add.j1 (k + 1) y0 y1 y2 y3 y4 y5 y6))
 | 0 => ⟨fun _ _ _ _ _ r h => by simp [ratio_Add.j0] at h, fun _ _ _ _ _ _ _ r h => by simp [ratio_Add.j1] at h⟩
 | k + 1 => by
  obtain ⟨ih0, ih1⟩ := ratio_Add.mono_l k; refine ⟨?_, ?_⟩
  ·intro y0 y1 y2 y3 y4; unfold ratio_Add.j0
   repeat' first
   | (with_reducible exact ih0 _ _ _ _ _)
   | (with_reducible exact ih1 _ _ _ _ _ _ _)
   | (with_reducible exact bits_Rem64.mono _ _ _ _)
   | (with_reducible exact ratio_Valid.mono _ _ _)
   | (with_reducible exact ratio_gcd.mono _ _ _)
   | (with_reducible exact ratio_lowest.mono _ _ _ _ _)
   | (with_reducible exact ratio_wide_over.mono _ _ _ _ _)
   | (with_reducible exact ratio_wide_plus.mono _ _ _ _ _ _ _)
   | (with_reducible exact LeO.refl _)
   | (with_reducible exact LeO.none _)
   | (with_reducible refine LeO.ite ?_ ?_)
   | (with_reducible refine LeO.bind ?_ (fun _ => ?_))
   | exact ih0 _ _ _ _ _
   | exact ih1 _ _ _ _ _ _ _
   | exact bits_Rem64.mono _ _ _ _
   | exact ratio_Valid.mono _ _ _
   | exact ratio_gcd.mono _ _ _
   | exact ratio_lowest.mono _ _ _ _ _
   | exact ratio_wide_over.mono _ _ _ _ _
   | exact ratio_wide_plus.mono _ _ _ _ _ _ _
   | exact LeO.none _
   | refine LeO.ite ?_ ?_
   | refine LeO.bind ?_ (fun _ => ?_)
  ·intro y0 y1 y2 y3 y4 y5 y6; unfold ratio_Add.j1
   repeat' first
   | (with_reducible exact ih0 _ _ _ _ _)
   | (with_reducible exact ih1 _ _ _ _ _ _ _)
   | (with_reducible exact bits_Rem64.mono _ _ _ _)
   | (with_reducible exact ratio_Valid.mono _ _ _)
   | (with_reducible exact ratio_gcd.mono _ _ _)
   | (with_reducible exact ratio_lowest.mono _ _ _ _ _)
   | (with_reducible exact ratio_wide_over.mono _ _ _ _ _)
   | (with_reducible exact ratio_wide_plus.mono _ _ _ _ _ _ _)
   | (with_reducible exact LeO.refl _)
   | (with_reducible exact LeO.none _)
   | (with_reducible refine LeO.ite ?_ ?_)
   | (with_reducible refine LeO.bind ?_ (fun _ => ?_))
   | exact ih0 _ _ _ _ _
   | exact ih1 _ _ _ _ _ _ _
   | exact bits_Rem64.mono _ _ _ _
   | exact ratio_Valid.mono _ _ _
   | exact ratio_gcd.mono _ _ _
   | exact ratio_lowest.mono _ _ _ _ _
   | exact ratio_wide_over.mono _ _ _ _ _
   | exact ratio_wide_plus.mono _ _ _ _ _ _ _
   | exact LeO.none _
   | refine LeO.ite ?_ ?_
   | refine LeO.bind ?_ (fun _ => ?_)
theorem ratio_Add.mono : ∀ a0 a1 a2 a3 k, LeO (ratio_Add.f k a0 a1 a2 a3) (ratio_Add.f (k + 1) a0 a1 a2 a3) := by
 intro a0 a1 a2 a3 k; obtain ⟨ih0, ih1⟩ := ratio_Add.mono_l k; unfold ratio_Add.f
 repeat' first
   | (with_reducible exact ih0 _ _ _ _ _)
   | (with_reducible exact ih1 _ _ _ _ _ _ _)
   | (with_reducible exact bits_Rem64.mono _ _ _ _)
   | (with_reducible exact ratio_Valid.mono _ _ _)
   | (with_reducible exact ratio_gcd.mono _ _ _)
   | (with_reducible exact ratio_lowest.mono _ _ _ _ _)
   | (with_reducible exact ratio_wide_over.mono _ _ _ _ _)
   | (with_reducible exact ratio_wide_plus.mono _ _ _ _ _ _ _)
   | (with_reducible exact LeO.refl _)
   | (with_reducible exact LeO.none _)
   | (with_reducible refine LeO.ite ?_ ?_)
   | (with_reducible refine LeO.bind ?_ (fun _ => ?_))
   | exact ih0 _ _ _ _ _
   | exact ih1 _ _ _ _ _ _ _
   | exact bits_Rem64.mono _ _ _ _
   | exact ratio_Valid.mono _ _ _
   | exact ratio_gcd.mono _ _ _
   | exact ratio_lowest.mono _ _ _ _ _
   | exact ratio_wide_over.mono _ _ _ _ _
   | exact ratio_wide_plus.mono _ _ _ _ _ _ _
   | exact LeO.none _
   | refine LeO.ite ?_ ?_
   | refine LeO.bind ?_ (fun _ => ?_)
def ratio_Add.T4 : Bool × List (List Nat × List Nat) := (true, [([], []), ([0], [0]), ([1], [1]), ([], []), ([2, 3], [2, 3]), ([], []), ([5], [5]), ([6], [6]), ([], []), ([7, 8], [7, 8]), ([4, 0, 1, 2, 3, 4], [4]), ([9, 10, 0, 1, 2, 3, 4, 5, 6, 7, 8, 9, 10], [9])])
def ratio_Add.B4 : List Nat := [0, 1, 3, 0, 15, 0, 32, 96, 0, 480, 31, 2047]
theorem ratio_Add.tab4 : rtab .any (opsOf Tryd.f43 4) = ratio_Add.T4 := by kernel_rfl
theorem ratio_Add.bits4 : waitsOk ratio_Add.T4.2 ratio_Add.B4 = true := by kernel_rfl
def ratio_Add.T5 : Bool × List (List Nat × List Nat) := (true, [([], []), ([0], [0]), ([], []), ([1, 2], [1, 2]), ([], []), ([4], [4]), ([], []), ([5, 6, 3], [5, 6]), ([3, 7, 7], [3, 7]), ([], []), ([9, 8, 8, 0, 1, 2, 3, 4, 5, 6, 7, 8, 9], [8, 9])])
def ratio_Add.B5 : List Nat := [0, 1, 0, 7, 0, 16, 0, 127, 255, 0, 1023]
theorem ratio_Add.tab5 : rtab .any (opsOf Tryd.f43 5) = ratio_Add.T5 := by kernel_rfl
theorem ratio_Add.bits5 : waitsOk ratio_Add.T5.2 ratio_Add.B5 = true := by kernel_rfl
set_option maxHeartbeats 8000000 in
set_option maxRecDepth 100000 in
theorem ratio_Add.calls (k : Nat) (a0_0 : Int) (a0_1 : Int) (a1_0 : Int) (a1_1 : Int) (r1 : Int) (r2 : Int) (r3 : Int) (w : World) (h : ratio_Add.f k a0_0 a0_1 a1_0 a1_1 = some (r1, r2, r3)) :
  Calls Tryd.prog 43 #[.agg #[.int .i64 a0_0, .int .i64 a0_1], .agg #[.int .i64 a1_0, .int .i64 a1_1]] w fun e w' => e = .returned (.tuple #[.agg #[.int .i64 r1, .int .i64 r2], .int .i64 r3]) ∧ Below w.heap.size w w' := by
 have hu24 := Tryd.underlying24; have hu58 := Tryd.underlying58; have HB := Aside0.mk (Below.refl w.heap.size w); have H : ((ratio_Valid.f k a0_0 a0_1).bind fun t488 => (if t488 = true then ((ratio_Valid.f k a1_0 a1_1).bind fun t489 => (ratio_Add.j0 k (!t489) a0_0 a0_1 a1_0 a1_1)) else (ratio_Add.j0 k true a0_0 a0_1 a1_0 a1_1))) = some (r1, r2, r3) := h; clear h; have HC3 := Aside0.mk H; clear H; go_enter Tryd.func43, Tryd.ntmps43
 go_upto_region 1 with (first | ((with_reducible refine gate_dst (N := 2) rfl ?_); refine bx (N := 2) (cs := #[.int .i64 a0_0, .int .i64 a0_1]) (t := 24) ?_; intro gb485 hg w4 hbox hb; have BK485 := Aside0.mk (hbox); have GW485 := gs HB hg; have GE485 := gs HB hg; replace HB := wb HB hb; clear hb hbox hg) | ((with_reducible refine gate_dst (N := 3) rfl ?_); refine bx (N := 3) (cs := #[.int .i64 a1_0, .int .i64 a1_1]) (t := 24) ?_; intro gb486 hg w5 hbox hb; have BK486 := Aside0.mk (hbox); have GW486 := gs HB hg; have GE486 := gs HB hg; have NB485_486 := nl BK485 hg; have NB486_485 := nr BK485 hg; replace BK485 := kb BK485 hb; replace HB := wb HB hb; clear hb hbox hg) | ((with_reducible refine gate_dst (N := 4) rfl ?_); refine bx (N := 4) (cs := #[.int .i64 0, .int .i64 0]) (t := 24) ?_; intro gb487 hg w6 hbox hb; have BK487 := Aside0.mk (hbox); have GW487 := gs HB hg; have GE487 := gs HB hg; have NB485_487 := nl BK485 hg; have NB487_485 := nr BK485 hg; have NB486_487 := nl BK486 hg; have NB487_486 := nr BK486 hg; replace BK485 := kb BK485 hb; replace BK486 := kb BK486 hb; replace HB := wb HB hb; clear hb hbox hg))
 (try simp only [Act.put, List.setIfInBounds_toArray, List.set_cons_zero, List.set_cons_succ])
 go_cut [20] (fun v20 wc => ∃ (kq : Nat) (x20_2 : Bool), v20 = .bool x20_2 ∧ Aside0 (ratio_Add.j0 kq x20_2 a0_0 a0_1 a1_0 a1_1 = some (r1, r2, r3)) ∧ Aside0 (kq ≤ k) ∧ Aside0 (wc.heap[gb485]? = some (.cells #[.int .i64 a0_0, .int .i64 a0_1] 24 (0, 0))) ∧ Aside0 (wc.heap[gb486]? = some (.cells #[.int .i64 a1_0, .int .i64 a1_1] 24 (0, 0))) ∧ Aside0 (wc.heap[gb487]? = some (.cells #[.int .i64 0, .int .i64 0] 24 (0, 0))) ∧ Aside0 (Below w.heap.size w wc))
 case first =>
  have H := HC3.out; clear HC3; replace H := Option.bind_eq_some_iff.mp H; obtain ⟨t488, A70, H⟩ := H; (try dsimp only at H); have A7 := Aside0.mk A70; clear A70
  by_cases c8 : t488 = true
  ·subst c8; (have H1 : ((ratio_Valid.f k a1_0 a1_1).bind fun t489 => (ratio_Add.j0 k (!t489) a0_0 a0_1 a1_0 a1_1)) = some (r1, r2, r3) := by rw [if_pos rfl] at H; exact H); clear H; have H := H1; clear H1; replace H := Option.bind_eq_some_iff.mp H; obtain ⟨t489, A90, H⟩ := H; (try dsimp only at H); have A9 := Aside0.mk A90; clear A90; have H' := Aside0.mk H; clear H; obtain ⟨hnb10, hnc10⟩ := n2 NB485_486; obtain ⟨hnb11, hnc11⟩ := n2 NB485_487; have hcz12_0 : w6.cell? ⟨gb485, 0, none⟩ = some (.int .i64 a0_0) := bc BK485 0; have hcz12_1 : w6.cell? ⟨gb485, 1, none⟩ = some (.int .i64 a0_1) := bc BK485 1; have hfz12_0 := blk_frozen BK485.out 0; have hfz12_1 := blk_frozen BK485.out 1; go_wp2_with (first | ((with_reducible refine gate_callee (f := 42) rfl ?_); refine gl (some 14) Tryd.func42 #[.agg #[.int .i64 a0_0, .int .i64 a0_1]] ?_; (with_reducible refine (ratio_Valid.calls k a0_0 a0_1 true _ A7.out).mono ?_); rintro e w13 ⟨rfl, hb⟩; refine ⟨_, rfl, ?_⟩; replace BK485 := kb BK485 hb; replace BK486 := kb BK486 hb; replace BK487 := kb BK487 hb; replace HB := wb HB hb; (try clear hb); (try clear hb2); (try clear hk); (try clear hi); obtain ⟨hnb14, hnc14⟩ := n2 NB486_487; have hcz15_0 : w13.cell? ⟨gb486, 0, none⟩ = some (.int .i64 a1_0) := bc BK486 0; have hcz15_1 : w13.cell? ⟨gb486, 1, none⟩ = some (.int .i64 a1_1) := bc BK486 1; have hfz15_0 := blk_frozen BK486.out 0; have hfz15_1 := blk_frozen BK486.out 1) | (go_at_call 42; (with_reducible refine (ratio_Valid.calls k a1_0 a1_1 t489 _ A9.out).mono ?_); rintro e w16 ⟨rfl, hb⟩; replace BK485 := kb BK485 hb; replace BK486 := kb BK486 hb; replace BK487 := kb BK487 hb; replace HB := wb HB hb; (try clear hb); (try clear hb2); (try clear hk); (try clear hi)))
   go_meet
   case rel => exact ⟨_, (!t489), (by first | rfl | (simp; done) | (simp [*]; done)), H', ⟨by first | omega | exact Nat.le_refl _⟩, ⟨bq BK485⟩, ⟨bq BK486⟩, ⟨bq BK487⟩, ⟨bw HB⟩⟩
  ·replace c8 := Bool.eq_false_iff.mpr c8; subst c8; (have H1 : (ratio_Add.j0 k true a0_0 a0_1 a1_0 a1_1) = some (r1, r2, r3) := by rw [if_neg (show ¬ (false = true) by decide)] at H; exact H); clear H; have H := H1; clear H1; have H' := Aside0.mk H; clear H; obtain ⟨hnb17, hnc17⟩ := n2 NB485_486; obtain ⟨hnb18, hnc18⟩ := n2 NB485_487; have hcz19_0 : w6.cell? ⟨gb485, 0, none⟩ = some (.int .i64 a0_0) := bc BK485 0; have hcz19_1 : w6.cell? ⟨gb485, 1, none⟩ = some (.int .i64 a0_1) := bc BK485 1; have hfz19_0 := blk_frozen BK485.out 0; have hfz19_1 := blk_frozen BK485.out 1; go_wp2_with (first | ((with_reducible refine gate_callee (f := 42) rfl ?_); refine gl (some 14) Tryd.func42 #[.agg #[.int .i64 a0_0, .int .i64 a0_1]] ?_; (with_reducible refine (ratio_Valid.calls k a0_0 a0_1 false _ A7.out).mono ?_); rintro e w20 ⟨rfl, hb⟩; refine ⟨_, rfl, ?_⟩; replace BK485 := kb BK485 hb; replace BK486 := kb BK486 hb; replace BK487 := kb BK487 hb; replace HB := wb HB hb; (try clear hb); (try clear hb2); (try clear hk); (try clear hi)))
   go_meet
   case rel => exact ⟨_, (true), (by first | rfl | (simp; done) | (simp [*]; done)), H', ⟨by first | omega | exact Nat.le_refl _⟩, ⟨bq BK485⟩, ⟨bq BK486⟩, ⟨bq BK487⟩, ⟨bw HB⟩⟩
 case rest =>
  clear HC3; (try clear c1); (try clear p2); (try clear c4); (try clear c8); (try clear c10); (try clear c11); (try clear c14); (try clear c17); (try clear c18); (try clear hcz12_0); (try clear hcz12_1); (try clear hcz15_0); (try clear hcz15_1); (try clear hcz19_0); (try clear hcz19_1); (try clear hfz12_0); (try clear hfz12_1); (try clear hfz15_0); (try clear hfz15_1); (try clear hfz19_0); (try clear hfz19_1); obtain ⟨kq, x20_2, rfl, HA, HJ2, BK485, BK486, BK487, HB⟩ := hcut
  cases kq with
  | zero => exact absurd HA.out (by simp [ratio_Add.j0])
  | succ kj2 =>
   have H := HA.out; clear HA; simp only [ratio_Add.j0] at H
   by_cases c21 : x20_2 = true
   ·subst c21; (have H1 : (some (0, 0, 1)) = some (r1, r2, r3) := by rw [if_pos rfl] at H; exact H); clear H; have H := H1; clear H1; simp only [Option.some.injEq, Prod.mk.injEq] at H; obtain ⟨rfl, rfl, rfl⟩ := H; obtain ⟨hnb22, hnc22⟩ := n2 NB487_485; obtain ⟨hnb23, hnc23⟩ := n2 NB487_486; have hcz24_0 : wc.cell? ⟨gb487, 0, none⟩ = some (.int .i64 0) := bc BK487 0; have hcz24_1 : wc.cell? ⟨gb487, 1, none⟩ = some (.int .i64 0) := bc BK487 1; have hfz24_0 := blk_frozen BK487.out 0; have hfz24_1 := blk_frozen BK487.out 1; (go_wp2); refine bodyPost_ret (results_ct rfl _ _ gb487 24 #[.int .i64 0, .int .i64 0] (0, 0) _ rfl (by refine pe ?_; refine blk_put (cs := #[.int .i64 0, .int .i64 0]) ?_ 1 _ rfl; refine pe ?_; refine blk_put (cs := #[.int .i64 0, .int .i64 0]) ?_ 0 _ rfl; refine pe ?_; exact BK487.out) Tryd.underlying24 rfl (by kernel_rfl)) rfl ?_; exact ⟨by first | rfl | (simp [errW_none, errW_some] <;> rfl) | (simp [*, errW_none, errW_some] <;> rfl), bw HB⟩
   ·replace c21 := Bool.eq_false_iff.mpr c21; subst c21; (have H1 : ((ratio_gcd.f kj2 (IntKind.u64.wrap (a0_1)) (IntKind.u64.wrap (a1_1))).bind fun t490 => (if t490 = 0 then (none) else ((ratio_times.f a0_0 (IntKind.u64.wrap (Int.tdiv (IntKind.u64.wrap (a1_1)) t490))).bind fun bt491 => ((ratio_times.f a1_0 (IntKind.u64.wrap (Int.tdiv (IntKind.u64.wrap (a0_1)) t490))).bind fun bt494 => ((ratio_wide_plus.f kj2 bt491.1 bt491.2.1 bt491.2.2 bt494.1 bt494.2.1 bt494.2.2).bind fun bt497 => (if bt497.2.1 = 0 then (ratio_Add.j1 kj2 t490 (IntKind.u64.wrap (Int.tdiv (IntKind.u64.wrap (a0_1)) t490)) (IntKind.u64.wrap (Int.tdiv (IntKind.u64.wrap (a1_1)) t490)) (bt497.2.2 == 0) bt497.1 bt497.2.1 bt497.2.2) else (ratio_Add.j1 kj2 t490 (IntKind.u64.wrap (Int.tdiv (IntKind.u64.wrap (a0_1)) t490)) (IntKind.u64.wrap (Int.tdiv (IntKind.u64.wrap (a1_1)) t490)) false bt497.1 bt497.2.1 bt497.2.2))))))) = some (r1, r2, r3) := by rw [if_neg (show ¬ (false = true) by decide)] at H; exact H); clear H; have H := H1; clear H1; replace H := Option.bind_eq_some_iff.mp H; obtain ⟨t490, A250, H⟩ := H; (try dsimp only at H); have A25 := Aside0.mk A250; clear A250
    by_cases c26 : t490 = 0
    ·rw [if_pos c26] at H; exact absurd H (by simp)
    ·rw [if_neg c26] at H; have c26b0 : (t490 == 0) = false := beq_eq_false_iff_ne.mpr c26; have c26b1 : (t490 != 0) = true := bne_iff_ne.mpr c26; replace H := Option.bind_eq_some_iff.mp H; obtain ⟨⟨t491, t492, t493⟩, A270, H⟩ := H; (try dsimp only at H); have A27 := Aside0.mk A270; clear A270; replace H := Option.bind_eq_some_iff.mp H; obtain ⟨⟨t494, t495, t496⟩, A280, H⟩ := H; (try dsimp only at H); have A28 := Aside0.mk A280; clear A280; replace H := Option.bind_eq_some_iff.mp H; obtain ⟨⟨t497, t498, t499⟩, A290, H⟩ := H; (try dsimp only at H); have A29 := Aside0.mk A290; clear A290; have HC30 := Aside0.mk H; clear H; obtain ⟨hnb31, hnc31⟩ := n2 NB485_486; obtain ⟨hnb32, hnc32⟩ := n2 NB485_487; have hcz33_0 : wc.cell? ⟨gb485, 0, none⟩ = some (.int .i64 a0_0) := bc BK485 0; have hcz33_1 : wc.cell? ⟨gb485, 1, none⟩ = some (.int .i64 a0_1) := bc BK485 1; have hfz33_0 := blk_frozen BK485.out 0; have hfz33_1 := blk_frozen BK485.out 1; obtain ⟨hnb34, hnc34⟩ := n2 NB486_487; have hcz35_0 : wc.cell? ⟨gb486, 0, none⟩ = some (.int .i64 a1_0) := bc BK486 0; have hcz35_1 : wc.cell? ⟨gb486, 1, none⟩ = some (.int .i64 a1_1) := bc BK486 1; have hfz35_0 := blk_frozen BK486.out 0; have hfz35_1 := blk_frozen BK486.out 1; (try go_wp2_with (first | ((with_reducible refine gate_callee (f := 68) rfl ?_); refine gl (some 28) Tryd.func68 #[.int .u64 (IntKind.u64.wrap (a0_1)), .int .u64 (IntKind.u64.wrap (a1_1))] ?_; (with_reducible refine (ratio_gcd.calls kj2 (IntKind.u64.wrap (a0_1)) (IntKind.u64.wrap (a1_1)) t490 _ A25.out).mono ?_); rintro e w' ⟨rfl, ⟨nd, rfl⟩⟩; refine ⟨_, rfl, ?_⟩; (try (rw [drewN_self wc]; generalize hq_ : World.drewN wc _ = wc; replace BK485 : Aside0 (wc.heap[gb485]? = some (.cells #[.int .i64 a0_0, .int .i64 a0_1] 24 (0, 0))) := ⟨by rw [← hq_]; exact (bq BK485)⟩; replace BK486 : Aside0 (wc.heap[gb486]? = some (.cells #[.int .i64 a1_0, .int .i64 a1_1] 24 (0, 0))) := ⟨by rw [← hq_]; exact (bq BK486)⟩; replace BK487 : Aside0 (wc.heap[gb487]? = some (.cells #[.int .i64 0, .int .i64 0] 24 (0, 0))) := ⟨by rw [← hq_]; exact (bq BK487)⟩; replace HB : Aside0 (Below w.heap.size w wc) := ⟨by rw [← hq_]; exact (bw HB)⟩; clear hq_))))); have n0_ := Aside0.mk (blk_drew BK485.out); have n1_ := Aside0.mk (blk_drew BK486.out); have n2_ := Aside0.mk (blk_drew BK487.out); have n3_ := Aside0.mk (below_drew1 HB.out); clear BK485; clear BK486; clear BK487; clear HB; have BK485 := n0_; have BK486 := n1_; have BK487 := n2_; have HB := n3_; clear n0_ n1_ n2_ n3_; refine start_ (n := 12) (S := fun w' => w'.cell? ⟨gb485, 0, none⟩ = some (.int .i64 a0_0) ∧ w'.cell? ⟨gb485, 1, none⟩ = some (.int .i64 a0_1) ∧ w'.cell? ⟨gb486, 0, none⟩ = some (.int .i64 a1_0) ∧ w'.cell? ⟨gb486, 1, none⟩ = some (.int .i64 a1_1)) (ds := []) #[false, false, false, false, false, false, false, false, false, false, false, false] (by kernel_rfl) rfl rfl ⟨bc BK485 0, bc BK485 1, bc BK486 0, bc BK486 1⟩ (fun hHeld => ?_); refine with_tabW ratio_Add.tab4 ratio_Add.bits4 (fun HT_ HW_ => ?_); (generalize wc.drew = w36 at BK485 BK486 BK487 HB hHeld ⊢); refine pure_ (i := 0) (N := some 29) (v := ?_) (a' := ?_) #[true, false, false, false, false, false, false, false, false, false, false, false] rfl rfl (any_of HT_.out (by kernel_rfl)) (fun _ _ _ h => h) (Or.inl ⟨by rfl, ?_⟩) ?_ ?_; rotate_left
     ·intro w'; (go_simp); with_reducible rfl
     rotate_left
     ·simp only [Act.put, List.setIfInBounds_toArray, List.set_cons_zero, List.set_cons_succ, i64_w, i32_w]; rfl
     refine pure_ (i := 3) (N := some 32) (v := ?_) (a' := ?_) #[true, false, false, true, false, false, false, false, false, false, false, false] rfl rfl (any_of HT_.out (by kernel_rfl)) (fun _ _ _ h => h) (Or.inl ⟨by rfl, ?_⟩) ?_ ?_; rotate_left
     ·intro w'; (go_simp); with_reducible rfl
     rotate_left
     ·simp only [Act.put, List.setIfInBounds_toArray, List.set_cons_zero, List.set_cons_succ, i64_w, i32_w]; rfl
     refine pure_ (i := 5) (N := some 34) (v := ?_) (a' := ?_) #[true, false, false, true, false, true, false, false, false, false, false, false] rfl rfl (any_of HT_.out (by kernel_rfl)) (fun _ _ _ h => h) (Or.inl ⟨by rfl, ?_⟩) ?_ ?_; rotate_left
     ·intro w'; (go_simp); with_reducible rfl
     rotate_left
     ·simp only [Act.put, List.setIfInBounds_toArray, List.set_cons_zero, List.set_cons_succ, i64_w, i32_w]; rfl
     refine pure_ (i := 8) (N := some 37) (v := ?_) (a' := ?_) #[true, false, false, true, false, true, false, false, true, false, false, false] rfl rfl (any_of HT_.out (by kernel_rfl)) (fun _ _ _ h => h) (Or.inl ⟨by rfl, ?_⟩) ?_ ?_; rotate_left
     ·intro w'; (go_simp); with_reducible rfl
     rotate_left
     ·simp only [Act.put, List.setIfInBounds_toArray, List.set_cons_zero, List.set_cons_succ, i64_w, i32_w]; rfl
     refine take_ (i := 1) (N := some 30) (v := ?_) (a' := ?_) #[true, true, false, true, false, true, false, false, true, false, false, false] rfl rfl (take_ofW HT_.out HW_.out (by kernel_rfl)) (fun _ _ _ h => h) (Or.inl ⟨by rfl, ?_⟩) hHeld ?_ ?_; rotate_left
     ·rintro w' ⟨s0, s1, s2, s3⟩; (go_simp); with_reducible rfl
     rotate_left
     ·simp only [Act.put, List.setIfInBounds_toArray, List.set_cons_zero, List.set_cons_succ, i64_w, i32_w]; rfl
     refine pure_ (i := 2) (N := some 31) (v := ?_) (a' := ?_) #[true, true, true, true, false, true, false, false, true, false, false, false] rfl rfl (any_of HT_.out (by kernel_rfl)) (fun _ _ _ h => h) (Or.inl ⟨by rfl, ?_⟩) ?_ ?_; rotate_left
     ·intro w'; (go_simp); with_reducible rfl
     rotate_left
     ·simp only [Act.put, List.setIfInBounds_toArray, List.set_cons_zero, List.set_cons_succ, i64_w, i32_w]; rfl
     refine pure_ (i := 4) (N := some 33) (v := ?_) (a' := ?_) #[true, true, true, true, true, true, false, false, true, false, false, false] rfl rfl (any_of HT_.out (by kernel_rfl)) (fun _ _ _ h => h) (Or.inl ⟨by rfl, ?_⟩) ?_ ?_; rotate_left
     ·intro w'; (go_simp); with_reducible rfl
     rotate_left
     ·simp only [Act.put, List.setIfInBounds_toArray, List.set_cons_zero, List.set_cons_succ, i64_w, i32_w]; rfl
     refine pure_ (i := 10) (N := some 7) (v := ?_) (a' := ?_) #[true, true, true, true, true, true, false, false, true, false, true, false] rfl rfl (any_of HT_.out (by kernel_rfl)) (fun _ _ _ h => h) (Or.inl ⟨by rfl, ?_⟩) ?_ ?_; rotate_left
     ·intro w'; (go_simp); with_reducible rfl
     rotate_left
     ·simp only [Act.put, List.setIfInBounds_toArray, List.set_cons_zero, List.set_cons_succ, i64_w, i32_w]; rfl
     refine take_ (i := 6) (N := some 35) (v := ?_) (a' := ?_) #[true, true, true, true, true, true, true, false, true, false, true, false] rfl rfl (take_ofW HT_.out HW_.out (by kernel_rfl)) (fun _ _ _ h => h) (Or.inl ⟨by rfl, ?_⟩) hHeld ?_ ?_; rotate_left
     ·rintro w' ⟨s0, s1, s2, s3⟩; (go_simp); with_reducible rfl
     rotate_left
     ·simp only [Act.put, List.setIfInBounds_toArray, List.set_cons_zero, List.set_cons_succ, i64_w, i32_w]; rfl
     refine pure_ (i := 7) (N := some 36) (v := ?_) (a' := ?_) #[true, true, true, true, true, true, true, true, true, false, true, false] rfl rfl (any_of HT_.out (by kernel_rfl)) (fun _ _ _ h => h) (Or.inl ⟨by rfl, ?_⟩) ?_ ?_; rotate_left
     ·intro w'; (go_simp); with_reducible rfl
     rotate_left
     ·simp only [Act.put, List.setIfInBounds_toArray, List.set_cons_zero, List.set_cons_succ, i64_w, i32_w]; rfl
     refine pure_ (i := 9) (N := some 38) (v := ?_) (a' := ?_) #[true, true, true, true, true, true, true, true, true, true, true, false] rfl rfl (any_of HT_.out (by kernel_rfl)) (fun _ _ _ h => h) (Or.inl ⟨by rfl, ?_⟩) ?_ ?_; rotate_left
     ·intro w'; (go_simp); with_reducible rfl
     rotate_left
     ·simp only [Act.put, List.setIfInBounds_toArray, List.set_cons_zero, List.set_cons_succ, i64_w, i32_w]; rfl
     refine pure_ (i := 11) (N := some 8) (v := ?_) (a' := ?_) #[true, true, true, true, true, true, true, true, true, true, true, true] rfl rfl (any_of HT_.out (by kernel_rfl)) (fun _ _ _ h => h) (Or.inl ⟨by rfl, ?_⟩) ?_ ?_; rotate_left
     ·intro w'; (go_simp); with_reducible rfl
     rotate_left
     ·simp only [Act.put, List.setIfInBounds_toArray, List.set_cons_zero, List.set_cons_succ, i64_w, i32_w]; rfl
     refine done_ (done_of HT_.out (by kernel_rfl)) ?_; (try go_wp2); have n0_ := Aside0.mk (blk_drew BK485.out); have n1_ := Aside0.mk (blk_drew BK486.out); have n2_ := Aside0.mk (blk_drew BK487.out); have n3_ := Aside0.mk (below_drew1 HB.out); clear BK485; clear BK486; clear BK487; clear HB; have BK485 := n0_; have BK486 := n1_; have BK487 := n2_; have HB := n3_; clear n0_ n1_ n2_ n3_; refine start_ (n := 11) (S := fun w' => w'.cell? ⟨gb485, 0, none⟩ = some (.int .i64 a0_0) ∧ w'.cell? ⟨gb485, 1, none⟩ = some (.int .i64 a0_1) ∧ w'.cell? ⟨gb486, 0, none⟩ = some (.int .i64 a1_0) ∧ w'.cell? ⟨gb486, 1, none⟩ = some (.int .i64 a1_1)) (ds := []) #[false, false, false, false, false, false, false, false, false, false, false] (by kernel_rfl) rfl rfl ⟨bc BK485 0, bc BK485 1, bc BK486 0, bc BK486 1⟩ (fun hHeld => ?_); refine with_tabW ratio_Add.tab5 ratio_Add.bits5 (fun HT_ HW_ => ?_); (generalize w36.drew = w37 at BK485 BK486 BK487 HB hHeld ⊢); refine pure_ (i := 0) (N := some 39) (v := ?_) (a' := ?_) #[true, false, false, false, false, false, false, false, false, false, false] rfl rfl (any_of HT_.out (by kernel_rfl)) (fun _ _ _ h => h) (Or.inl ⟨by rfl, ?_⟩) ?_ ?_; rotate_left
     ·intro w'; (go_simp); with_reducible rfl
     rotate_left
     ·simp only [Act.put, List.setIfInBounds_toArray, List.set_cons_zero, List.set_cons_succ, i64_w, i32_w]; rfl
     refine pure_ (i := 2) (N := some 41) (v := ?_) (a' := ?_) #[true, false, true, false, false, false, false, false, false, false, false] rfl rfl (any_of HT_.out (by kernel_rfl)) (fun _ _ _ h => h) (Or.inl ⟨by rfl, ?_⟩) ?_ ?_; rotate_left
     ·intro w'; (go_simp); with_reducible rfl
     rotate_left
     ·simp only [Act.put, List.setIfInBounds_toArray, List.set_cons_zero, List.set_cons_succ, i64_w, i32_w]; rfl
     refine pure_ (i := 4) (N := some 43) (v := ?_) (a' := ?_) #[true, false, true, false, true, false, false, false, false, false, false] rfl rfl (any_of HT_.out (by kernel_rfl)) (fun _ _ _ h => h) (Or.inl ⟨by rfl, ?_⟩) ?_ ?_; rotate_left
     ·intro w'; (go_simp); with_reducible rfl
     rotate_left
     ·simp only [Act.put, List.setIfInBounds_toArray, List.set_cons_zero, List.set_cons_succ, i64_w, i32_w]; rfl
     refine pure_ (i := 6) (N := some 45) (v := ?_) (a' := ?_) #[true, false, true, false, true, false, true, false, false, false, false] rfl rfl (any_of HT_.out (by kernel_rfl)) (fun _ _ _ h => h) (Or.inl ⟨by rfl, ?_⟩) ?_ ?_; rotate_left
     ·intro w'; (go_simp); with_reducible rfl
     rotate_left
     ·simp only [Act.put, List.setIfInBounds_toArray, List.set_cons_zero, List.set_cons_succ, i64_w, i32_w]; rfl
     refine take_ (i := 1) (N := some 40) (v := ?_) (a' := ?_) #[true, true, true, false, true, false, true, false, false, false, false] rfl rfl (take_ofW HT_.out HW_.out (by kernel_rfl)) (fun _ _ _ h => h) (Or.inl ⟨by rfl, ?_⟩) hHeld ?_ ?_; rotate_left
     ·rintro w' ⟨s0, s1, s2, s3⟩; (go_simp); with_reducible rfl
     rotate_left
     ·simp only [Act.put, List.setIfInBounds_toArray, List.set_cons_zero, List.set_cons_succ, i64_w, i32_w]; rfl
     refine take_ (i := 5) (N := some 44) (v := ?_) (a' := ?_) #[true, true, true, false, true, true, true, false, false, false, false] rfl rfl (take_ofW HT_.out HW_.out (by kernel_rfl)) (fun _ _ _ h => h) (Or.inl ⟨by rfl, ?_⟩) hHeld ?_ ?_; rotate_left
     ·rintro w' ⟨s0, s1, s2, s3⟩; (go_simp); with_reducible rfl
     rotate_left
     ·simp only [Act.put, List.setIfInBounds_toArray, List.set_cons_zero, List.set_cons_succ, i64_w, i32_w]; rfl
     refine join_ (σ := Nat) 1 #[true, true, true, true, true, true, true, true, true, true, false] (fun s_ => [(42, .agg #[.bool t491, .int .u64 t492, .int .u64 t493]), (46, .agg #[.bool t494, .int .u64 t495, .int .u64 t496]), (47, .agg #[.bool t497, .int .u64 t498, .int .u64 t499]), (9, .pointer (some ⟨s_, 0, none⟩))]) (fun s_ w' => (w'.cell? ⟨gb485, 0, none⟩ = some (.int .i64 a0_0) ∧ w'.cell? ⟨gb485, 1, none⟩ = some (.int .i64 a0_1) ∧ w'.cell? ⟨gb486, 0, none⟩ = some (.int .i64 a1_0) ∧ w'.cell? ⟨gb486, 1, none⟩ = some (.int .i64 a1_1)) ∧ (w'.heap[gb485]? = some (.cells #[.int .i64 a0_0, .int .i64 a0_1] 24 (0, 0))) ∧ (w'.heap[gb486]? = some (.cells #[.int .i64 a1_0, .int .i64 a1_1] 24 (0, 0))) ∧ (w'.heap[gb487]? = some (.cells #[.int .i64 0, .int .i64 0] 24 (0, 0))) ∧ (w'.heap[s_]? = some (.cells #[.bool false, .int .u64 0, .int .u64 0] 58 (0, 0))) ∧ (w.heap.size ≤ s_) ∧ (w.heap.size ≤ s_) ∧ (gb485 ≠ s_) ∧ (s_ ≠ gb485) ∧ (gb486 ≠ s_) ∧ (s_ ≠ gb486) ∧ (gb487 ≠ s_) ∧ (s_ ≠ gb487) ∧ (Below w.heap.size w w')) ?_ ?_; rotate_left
     ·intro hCont; refine two_ (i := 3) (j := 9) (Ni := some 42) (Nj := some 9) #[true, true, true, true, true, true, true, false, false, false, false] #[true, true, true, false, true, true, true, false, false, true, false] rfl rfl rfl rfl (two_of HT_.out (by kernel_rfl)) (by decide) (by decide) (fun K hK => ?_) (fun K hK => ?_)
      ·skip
       refine gz Tryd.func71 #[.int .i64 a0_0, .int .u64 (IntKind.u64.wrap (Int.tdiv (IntKind.u64.wrap (a1_1)) t490))] ?_; (with_reducible refine (ratio_times.calls a0_0 (IntKind.u64.wrap (Int.tdiv (IntKind.u64.wrap (a1_1)) t490)) t491 t492 t493 _ A27.out).mono ?_); rintro e w38 ⟨rfl, hb⟩; refine ⟨_, rfl, ?_⟩; have n0_ := kb BK485 hb; have n1_ := kb BK486 hb; have n2_ := kb BK487 hb; have n3_ := wb HB hb; clear BK485; clear BK486; clear BK487; clear HB; have BK485 := n0_; have BK486 := n1_; have BK487 := n2_; have HB := n3_; clear n0_ n1_ n2_ n3_; (try clear hb); (try clear hb2); (try clear hk); (try clear hi); refine hK.out _ _ ⟨bc BK485 0, bc BK485 1, bc BK486 0, bc BK486 1⟩ (fun hHeld => ?_); clear hK K; refine norm_ (a' := ?_) ?_ ?_; rotate_left
       ·show Act.put _ (some 42) _ = _; simp only [Act.put, List.setIfInBounds_toArray, List.set_cons_zero, List.set_cons_succ, i64_w, i32_w]; rfl
       refine two_ (i := 7) (j := 9) (Ni := some 46) (Nj := some 9) #[true, true, true, true, true, true, true, true, false, false, false] #[true, true, true, true, true, true, true, false, false, true, false] rfl rfl rfl rfl (two_of HT_.out (by kernel_rfl)) (by decide) (by decide) (fun K hK => ?_) (fun K hK => ?_)
       ·skip
        refine gz Tryd.func71 #[.int .i64 a1_0, .int .u64 (IntKind.u64.wrap (Int.tdiv (IntKind.u64.wrap (a0_1)) t490))] ?_; (with_reducible refine (ratio_times.calls a1_0 (IntKind.u64.wrap (Int.tdiv (IntKind.u64.wrap (a0_1)) t490)) t494 t495 t496 _ A28.out).mono ?_); rintro e w39 ⟨rfl, hb⟩; refine ⟨_, rfl, ?_⟩; have n0_ := kb BK485 hb; have n1_ := kb BK486 hb; have n2_ := kb BK487 hb; have n3_ := wb HB hb; clear BK485; clear BK486; clear BK487; clear HB; have BK485 := n0_; have BK486 := n1_; have BK487 := n2_; have HB := n3_; clear n0_ n1_ n2_ n3_; (try clear hb); (try clear hb2); (try clear hk); (try clear hi); refine hK.out _ _ ⟨bc BK485 0, bc BK485 1, bc BK486 0, bc BK486 1⟩ (fun hHeld => ?_); clear hK K; refine norm_ (a' := ?_) ?_ ?_; rotate_left
        ·show Act.put _ (some 46) _ = _; simp only [Act.put, List.setIfInBounds_toArray, List.set_cons_zero, List.set_cons_succ, i64_w, i32_w]; rfl
        refine two_ (i := 8) (j := 9) (Ni := some 47) (Nj := some 9) #[true, true, true, true, true, true, true, true, true, false, false] #[true, true, true, true, true, true, true, true, false, true, false] rfl rfl rfl rfl (two_of HT_.out (by kernel_rfl)) (by decide) (by decide) (fun K hK => ?_) (fun K hK => ?_)
        ·skip
         refine gz Tryd.func59 #[.agg #[.bool t491, .int .u64 t492, .int .u64 t493], .agg #[.bool t494, .int .u64 t495, .int .u64 t496]] ?_; (with_reducible refine (ratio_wide_plus.calls kj2 t491 t492 t493 t494 t495 t496 t497 t498 t499 _ A29.out).mono ?_); rintro e w40 ⟨rfl, hb⟩; refine ⟨_, rfl, ?_⟩; have n0_ := kb BK485 hb; have n1_ := kb BK486 hb; have n2_ := kb BK487 hb; have n3_ := wb HB hb; clear BK485; clear BK486; clear BK487; clear HB; have BK485 := n0_; have BK486 := n1_; have BK487 := n2_; have HB := n3_; clear n0_ n1_ n2_ n3_; (try clear hb); (try clear hb2); (try clear hk); (try clear hi); refine hK.out _ _ ⟨bc BK485 0, bc BK485 1, bc BK486 0, bc BK486 1⟩ (fun hHeld => ?_); clear hK K; refine norm_ (a' := ?_) ?_ ?_; rotate_left
         ·show Act.put _ (some 47) _ = _; simp only [Act.put, List.setIfInBounds_toArray, List.set_cons_zero, List.set_cons_succ, i64_w, i32_w]; rfl
         refine one_ (i := 9) (N := some 9) #[true, true, true, true, true, true, true, true, true, true, false] rfl rfl (one_of HT_.out (by kernel_rfl)) (by decide) (fun K hK => ?_); refine box_step ?hg (N := 9) ?hd (cs := #[.bool false, .int .u64 0, .int .u64 0]) (t := 58) ?hr ?_; (case hd => rfl); (case hg => rfl); (case hr => first | (go_simp; done) | (go_simp; rfl)); intro gb500 hg w41 hbox hb; have n0_ := kb BK485 hb; have n1_ := kb BK486 hb; have n2_ := kb BK487 hb; have n3_ := wb HB hb; have n4_ := Aside0.mk (hbox); have n5_ := gs HB hg; have n6_ := gs HB hg; have n7_ := nl BK485 hg; have n8_ := nr BK485 hg; have n9_ := nl BK486 hg; have n10_ := nr BK486 hg; have n11_ := nl BK487 hg; have n12_ := nr BK487 hg; clear BK485; clear BK486; clear BK487; clear HB; have BK485 := n0_; have BK486 := n1_; have BK487 := n2_; have HB := n3_; have BK500 := n4_; have GW500 := n5_; have GE500 := n6_; have NB485_500 := n7_; have NB500_485 := n8_; have NB486_500 := n9_; have NB500_486 := n10_; have NB487_500 := n11_; have NB500_487 := n12_; clear n0_ n1_ n2_ n3_ n4_ n5_ n6_ n7_ n8_ n9_ n10_ n11_ n12_; clear hb hbox hg; refine hK.out _ _ ⟨bc BK485 0, bc BK485 1, bc BK486 0, bc BK486 1⟩ (fun hHeld => ?_); clear hK K; refine norm_ (a' := ?_) ?_ ?_; rotate_left
         ·show Act.put _ (some 9) _ = _; simp only [Act.put, List.setIfInBounds_toArray, List.set_cons_zero, List.set_cons_succ, i64_w, i32_w]; rfl
         exact norm_ (by simp only [putAll, Act.put, List.setIfInBounds_toArray, List.set_cons_zero, List.set_cons_succ]) (hCont (gb500) _ ⟨hHeld, (bq BK485), (bq BK486), (bq BK487), (bq BK500), GW500.out, GE500.out, NB485_500.out, NB500_485.out, NB486_500.out, NB500_486.out, NB487_500.out, NB500_487.out, (bw HB)⟩)
        ·skip
         refine box_step ?hg (N := 9) ?hd (cs := #[.bool false, .int .u64 0, .int .u64 0]) (t := 58) ?hr ?_; (case hd => rfl); (case hg => rfl); (case hr => first | (go_simp; done) | (go_simp; rfl)); intro gb500 hg w40 hbox hb; have n0_ := kb BK485 hb; have n1_ := kb BK486 hb; have n2_ := kb BK487 hb; have n3_ := wb HB hb; have n4_ := Aside0.mk (hbox); have n5_ := gs HB hg; have n6_ := gs HB hg; have n7_ := nl BK485 hg; have n8_ := nr BK485 hg; have n9_ := nl BK486 hg; have n10_ := nr BK486 hg; have n11_ := nl BK487 hg; have n12_ := nr BK487 hg; clear BK485; clear BK486; clear BK487; clear HB; have BK485 := n0_; have BK486 := n1_; have BK487 := n2_; have HB := n3_; have BK500 := n4_; have GW500 := n5_; have GE500 := n6_; have NB485_500 := n7_; have NB500_485 := n8_; have NB486_500 := n9_; have NB500_486 := n10_; have NB487_500 := n11_; have NB500_487 := n12_; clear n0_ n1_ n2_ n3_ n4_ n5_ n6_ n7_ n8_ n9_ n10_ n11_ n12_; clear hb hbox hg; refine hK.out _ _ ⟨bc BK485 0, bc BK485 1, bc BK486 0, bc BK486 1⟩ (fun hHeld => ?_); clear hK K; refine norm_ (a' := ?_) ?_ ?_; rotate_left
         ·show Act.put _ (some 9) _ = _; simp only [Act.put, List.setIfInBounds_toArray, List.set_cons_zero, List.set_cons_succ, i64_w, i32_w]; rfl
         refine one_ (i := 8) (N := some 47) #[true, true, true, true, true, true, true, true, true, true, false] rfl rfl (one_of HT_.out (by kernel_rfl)) (by decide) (fun K hK => ?_); refine gz Tryd.func59 #[.agg #[.bool t491, .int .u64 t492, .int .u64 t493], .agg #[.bool t494, .int .u64 t495, .int .u64 t496]] ?_; (with_reducible refine (ratio_wide_plus.calls kj2 t491 t492 t493 t494 t495 t496 t497 t498 t499 _ A29.out).mono ?_); rintro e w41 ⟨rfl, hb⟩; refine ⟨_, rfl, ?_⟩; have n0_ := kb BK485 hb; have n1_ := kb BK486 hb; have n2_ := kb BK487 hb; have n3_ := kb BK500 hb; have n4_ := wb HB hb; clear BK485; clear BK486; clear BK487; clear BK500; clear HB; have BK485 := n0_; have BK486 := n1_; have BK487 := n2_; have BK500 := n3_; have HB := n4_; clear n0_ n1_ n2_ n3_ n4_; (try clear hb); (try clear hb2); (try clear hk); (try clear hi); refine hK.out _ _ ⟨bc BK485 0, bc BK485 1, bc BK486 0, bc BK486 1⟩ (fun hHeld => ?_); clear hK K; refine norm_ (a' := ?_) ?_ ?_; rotate_left
         ·show Act.put _ (some 47) _ = _; simp only [Act.put, List.setIfInBounds_toArray, List.set_cons_zero, List.set_cons_succ, i64_w, i32_w]; rfl
         exact norm_ (by simp only [putAll, Act.put, List.setIfInBounds_toArray, List.set_cons_zero, List.set_cons_succ]) (hCont (gb500) _ ⟨hHeld, (bq BK485), (bq BK486), (bq BK487), (bq BK500), GW500.out, GE500.out, NB485_500.out, NB500_485.out, NB486_500.out, NB500_486.out, NB487_500.out, NB500_487.out, (bw HB)⟩)
       ·skip
        refine box_step ?hg (N := 9) ?hd (cs := #[.bool false, .int .u64 0, .int .u64 0]) (t := 58) ?hr ?_; (case hd => rfl); (case hg => rfl); (case hr => first | (go_simp; done) | (go_simp; rfl)); intro gb500 hg w39 hbox hb; have n0_ := kb BK485 hb; have n1_ := kb BK486 hb; have n2_ := kb BK487 hb; have n3_ := wb HB hb; have n4_ := Aside0.mk (hbox); have n5_ := gs HB hg; have n6_ := gs HB hg; have n7_ := nl BK485 hg; have n8_ := nr BK485 hg; have n9_ := nl BK486 hg; have n10_ := nr BK486 hg; have n11_ := nl BK487 hg; have n12_ := nr BK487 hg; clear BK485; clear BK486; clear BK487; clear HB; have BK485 := n0_; have BK486 := n1_; have BK487 := n2_; have HB := n3_; have BK500 := n4_; have GW500 := n5_; have GE500 := n6_; have NB485_500 := n7_; have NB500_485 := n8_; have NB486_500 := n9_; have NB500_486 := n10_; have NB487_500 := n11_; have NB500_487 := n12_; clear n0_ n1_ n2_ n3_ n4_ n5_ n6_ n7_ n8_ n9_ n10_ n11_ n12_; clear hb hbox hg; refine hK.out _ _ ⟨bc BK485 0, bc BK485 1, bc BK486 0, bc BK486 1⟩ (fun hHeld => ?_); clear hK K; refine norm_ (a' := ?_) ?_ ?_; rotate_left
        ·show Act.put _ (some 9) _ = _; simp only [Act.put, List.setIfInBounds_toArray, List.set_cons_zero, List.set_cons_succ, i64_w, i32_w]; rfl
        refine one_ (i := 7) (N := some 46) #[true, true, true, true, true, true, true, true, false, true, false] rfl rfl (one_of HT_.out (by kernel_rfl)) (by decide) (fun K hK => ?_); refine gz Tryd.func71 #[.int .i64 a1_0, .int .u64 (IntKind.u64.wrap (Int.tdiv (IntKind.u64.wrap (a0_1)) t490))] ?_; (with_reducible refine (ratio_times.calls a1_0 (IntKind.u64.wrap (Int.tdiv (IntKind.u64.wrap (a0_1)) t490)) t494 t495 t496 _ A28.out).mono ?_); rintro e w40 ⟨rfl, hb⟩; refine ⟨_, rfl, ?_⟩; have n0_ := kb BK485 hb; have n1_ := kb BK486 hb; have n2_ := kb BK487 hb; have n3_ := kb BK500 hb; have n4_ := wb HB hb; clear BK485; clear BK486; clear BK487; clear BK500; clear HB; have BK485 := n0_; have BK486 := n1_; have BK487 := n2_; have BK500 := n3_; have HB := n4_; clear n0_ n1_ n2_ n3_ n4_; (try clear hb); (try clear hb2); (try clear hk); (try clear hi); refine hK.out _ _ ⟨bc BK485 0, bc BK485 1, bc BK486 0, bc BK486 1⟩ (fun hHeld => ?_); clear hK K; refine norm_ (a' := ?_) ?_ ?_; rotate_left
        ·show Act.put _ (some 46) _ = _; simp only [Act.put, List.setIfInBounds_toArray, List.set_cons_zero, List.set_cons_succ, i64_w, i32_w]; rfl
        refine one_ (i := 8) (N := some 47) #[true, true, true, true, true, true, true, true, true, true, false] rfl rfl (one_of HT_.out (by kernel_rfl)) (by decide) (fun K hK => ?_); refine gz Tryd.func59 #[.agg #[.bool t491, .int .u64 t492, .int .u64 t493], .agg #[.bool t494, .int .u64 t495, .int .u64 t496]] ?_; (with_reducible refine (ratio_wide_plus.calls kj2 t491 t492 t493 t494 t495 t496 t497 t498 t499 _ A29.out).mono ?_); rintro e w41 ⟨rfl, hb⟩; refine ⟨_, rfl, ?_⟩; have n0_ := kb BK485 hb; have n1_ := kb BK486 hb; have n2_ := kb BK487 hb; have n3_ := kb BK500 hb; have n4_ := wb HB hb; clear BK485; clear BK486; clear BK487; clear BK500; clear HB; have BK485 := n0_; have BK486 := n1_; have BK487 := n2_; have BK500 := n3_; have HB := n4_; clear n0_ n1_ n2_ n3_ n4_; (try clear hb); (try clear hb2); (try clear hk); (try clear hi); refine hK.out _ _ ⟨bc BK485 0, bc BK485 1, bc BK486 0, bc BK486 1⟩ (fun hHeld => ?_); clear hK K; refine norm_ (a' := ?_) ?_ ?_; rotate_left
        ·show Act.put _ (some 47) _ = _; simp only [Act.put, List.setIfInBounds_toArray, List.set_cons_zero, List.set_cons_succ, i64_w, i32_w]; rfl
        exact norm_ (by simp only [putAll, Act.put, List.setIfInBounds_toArray, List.set_cons_zero, List.set_cons_succ]) (hCont (gb500) _ ⟨hHeld, (bq BK485), (bq BK486), (bq BK487), (bq BK500), GW500.out, GE500.out, NB485_500.out, NB500_485.out, NB486_500.out, NB500_486.out, NB487_500.out, NB500_487.out, (bw HB)⟩)
      ·skip
       refine box_step ?hg (N := 9) ?hd (cs := #[.bool false, .int .u64 0, .int .u64 0]) (t := 58) ?hr ?_; (case hd => rfl); (case hg => rfl); (case hr => first | (go_simp; done) | (go_simp; rfl)); intro gb500 hg w38 hbox hb; have n0_ := kb BK485 hb; have n1_ := kb BK486 hb; have n2_ := kb BK487 hb; have n3_ := wb HB hb; have n4_ := Aside0.mk (hbox); have n5_ := gs HB hg; have n6_ := gs HB hg; have n7_ := nl BK485 hg; have n8_ := nr BK485 hg; have n9_ := nl BK486 hg; have n10_ := nr BK486 hg; have n11_ := nl BK487 hg; have n12_ := nr BK487 hg; clear BK485; clear BK486; clear BK487; clear HB; have BK485 := n0_; have BK486 := n1_; have BK487 := n2_; have HB := n3_; have BK500 := n4_; have GW500 := n5_; have GE500 := n6_; have NB485_500 := n7_; have NB500_485 := n8_; have NB486_500 := n9_; have NB500_486 := n10_; have NB487_500 := n11_; have NB500_487 := n12_; clear n0_ n1_ n2_ n3_ n4_ n5_ n6_ n7_ n8_ n9_ n10_ n11_ n12_; clear hb hbox hg; refine hK.out _ _ ⟨bc BK485 0, bc BK485 1, bc BK486 0, bc BK486 1⟩ (fun hHeld => ?_); clear hK K; refine norm_ (a' := ?_) ?_ ?_; rotate_left
       ·show Act.put _ (some 9) _ = _; simp only [Act.put, List.setIfInBounds_toArray, List.set_cons_zero, List.set_cons_succ, i64_w, i32_w]; rfl
       refine one_ (i := 3) (N := some 42) #[true, true, true, true, true, true, true, false, false, true, false] rfl rfl (one_of HT_.out (by kernel_rfl)) (by decide) (fun K hK => ?_); refine gz Tryd.func71 #[.int .i64 a0_0, .int .u64 (IntKind.u64.wrap (Int.tdiv (IntKind.u64.wrap (a1_1)) t490))] ?_; (with_reducible refine (ratio_times.calls a0_0 (IntKind.u64.wrap (Int.tdiv (IntKind.u64.wrap (a1_1)) t490)) t491 t492 t493 _ A27.out).mono ?_); rintro e w39 ⟨rfl, hb⟩; refine ⟨_, rfl, ?_⟩; have n0_ := kb BK485 hb; have n1_ := kb BK486 hb; have n2_ := kb BK487 hb; have n3_ := kb BK500 hb; have n4_ := wb HB hb; clear BK485; clear BK486; clear BK487; clear BK500; clear HB; have BK485 := n0_; have BK486 := n1_; have BK487 := n2_; have BK500 := n3_; have HB := n4_; clear n0_ n1_ n2_ n3_ n4_; (try clear hb); (try clear hb2); (try clear hk); (try clear hi); refine hK.out _ _ ⟨bc BK485 0, bc BK485 1, bc BK486 0, bc BK486 1⟩ (fun hHeld => ?_); clear hK K; refine norm_ (a' := ?_) ?_ ?_; rotate_left
       ·show Act.put _ (some 42) _ = _; simp only [Act.put, List.setIfInBounds_toArray, List.set_cons_zero, List.set_cons_succ, i64_w, i32_w]; rfl
       refine one_ (i := 7) (N := some 46) #[true, true, true, true, true, true, true, true, false, true, false] rfl rfl (one_of HT_.out (by kernel_rfl)) (by decide) (fun K hK => ?_); refine gz Tryd.func71 #[.int .i64 a1_0, .int .u64 (IntKind.u64.wrap (Int.tdiv (IntKind.u64.wrap (a0_1)) t490))] ?_; (with_reducible refine (ratio_times.calls a1_0 (IntKind.u64.wrap (Int.tdiv (IntKind.u64.wrap (a0_1)) t490)) t494 t495 t496 _ A28.out).mono ?_); rintro e w40 ⟨rfl, hb⟩; refine ⟨_, rfl, ?_⟩; have n0_ := kb BK485 hb; have n1_ := kb BK486 hb; have n2_ := kb BK487 hb; have n3_ := kb BK500 hb; have n4_ := wb HB hb; clear BK485; clear BK486; clear BK487; clear BK500; clear HB; have BK485 := n0_; have BK486 := n1_; have BK487 := n2_; have BK500 := n3_; have HB := n4_; clear n0_ n1_ n2_ n3_ n4_; (try clear hb); (try clear hb2); (try clear hk); (try clear hi); refine hK.out _ _ ⟨bc BK485 0, bc BK485 1, bc BK486 0, bc BK486 1⟩ (fun hHeld => ?_); clear hK K; refine norm_ (a' := ?_) ?_ ?_; rotate_left
       ·show Act.put _ (some 46) _ = _; simp only [Act.put, List.setIfInBounds_toArray, List.set_cons_zero, List.set_cons_succ, i64_w, i32_w]; rfl
       refine one_ (i := 8) (N := some 47) #[true, true, true, true, true, true, true, true, true, true, false] rfl rfl (one_of HT_.out (by kernel_rfl)) (by decide) (fun K hK => ?_); refine gz Tryd.func59 #[.agg #[.bool t491, .int .u64 t492, .int .u64 t493], .agg #[.bool t494, .int .u64 t495, .int .u64 t496]] ?_; (with_reducible refine (ratio_wide_plus.calls kj2 t491 t492 t493 t494 t495 t496 t497 t498 t499 _ A29.out).mono ?_); rintro e w41 ⟨rfl, hb⟩; refine ⟨_, rfl, ?_⟩; have n0_ := kb BK485 hb; have n1_ := kb BK486 hb; have n2_ := kb BK487 hb; have n3_ := kb BK500 hb; have n4_ := wb HB hb; clear BK485; clear BK486; clear BK487; clear BK500; clear HB; have BK485 := n0_; have BK486 := n1_; have BK487 := n2_; have BK500 := n3_; have HB := n4_; clear n0_ n1_ n2_ n3_ n4_; (try clear hb); (try clear hb2); (try clear hk); (try clear hi); refine hK.out _ _ ⟨bc BK485 0, bc BK485 1, bc BK486 0, bc BK486 1⟩ (fun hHeld => ?_); clear hK K; refine norm_ (a' := ?_) ?_ ?_; rotate_left
       ·show Act.put _ (some 47) _ = _; simp only [Act.put, List.setIfInBounds_toArray, List.set_cons_zero, List.set_cons_succ, i64_w, i32_w]; rfl
       exact norm_ (by simp only [putAll, Act.put, List.setIfInBounds_toArray, List.set_cons_zero, List.set_cons_succ]) (hCont (gb500) _ ⟨hHeld, (bq BK485), (bq BK486), (bq BK487), (bq BK500), GW500.out, GE500.out, NB485_500.out, NB500_485.out, NB486_500.out, NB500_486.out, NB487_500.out, NB500_487.out, (bw HB)⟩)
     rintro gb500 w42 ⟨hS_, h0_, h1_, h2_, h3_, h4_, h5_, h6_, h7_, h8_, h9_, h10_, h11_, h12_⟩; have n0_ : Aside0 (w42.heap[gb485]? = some (.cells #[.int .i64 a0_0, .int .i64 a0_1] 24 (0, 0))) := ⟨h0_⟩; have n1_ : Aside0 (w42.heap[gb486]? = some (.cells #[.int .i64 a1_0, .int .i64 a1_1] 24 (0, 0))) := ⟨h1_⟩; have n2_ : Aside0 (w42.heap[gb487]? = some (.cells #[.int .i64 0, .int .i64 0] 24 (0, 0))) := ⟨h2_⟩; have n3_ : Aside0 (w42.heap[gb500]? = some (.cells #[.bool false, .int .u64 0, .int .u64 0] 58 (0, 0))) := ⟨h3_⟩; have n4_ : Aside0 (w.heap.size ≤ gb500) := ⟨h4_⟩; have n5_ : Aside0 (w.heap.size ≤ gb500) := ⟨h5_⟩; have n6_ : Aside0 (gb485 ≠ gb500) := ⟨h6_⟩; have n7_ : Aside0 (gb500 ≠ gb485) := ⟨h7_⟩; have n8_ : Aside0 (gb486 ≠ gb500) := ⟨h8_⟩; have n9_ : Aside0 (gb500 ≠ gb486) := ⟨h9_⟩; have n10_ : Aside0 (gb487 ≠ gb500) := ⟨h10_⟩; have n11_ : Aside0 (gb500 ≠ gb487) := ⟨h11_⟩; have n12_ : Aside0 (Below w.heap.size w w42) := ⟨h12_⟩; clear BK485; clear BK486; clear BK487; clear HB; clear h0_ h1_ h2_ h3_ h4_ h5_ h6_ h7_ h8_ h9_ h10_ h11_ h12_; have BK485 := n0_; have BK486 := n1_; have BK487 := n2_; have BK500 := n3_; have GW500 := n4_; have GE500 := n5_; have NB485_500 := n6_; have NB500_485 := n7_; have NB486_500 := n8_; have NB500_486 := n9_; have NB487_500 := n10_; have NB500_487 := n11_; have HB := n12_; clear n0_ n1_ n2_ n3_ n4_ n5_ n6_ n7_ n8_ n9_ n10_ n11_ n12_; have hHeld : w42.cell? ⟨gb485, 0, none⟩ = some (.int .i64 a0_0) ∧ w42.cell? ⟨gb485, 1, none⟩ = some (.int .i64 a0_1) ∧ w42.cell? ⟨gb486, 0, none⟩ = some (.int .i64 a1_0) ∧ w42.cell? ⟨gb486, 1, none⟩ = some (.int .i64 a1_1) := hS_; refine norm_ (a' := ?_) ?_ ?_; rotate_left
     ·simp only [putAll, Act.put, List.setIfInBounds_toArray, List.set_cons_zero, List.set_cons_succ]; rfl
     refine one_ (i := 10) (N := none) #[true, true, true, true, true, true, true, true, true, true, true] rfl rfl (one_of HT_.out (by kernel_rfl)) (by decide) (fun K hK => ?_); have hs43 : w42.cell? ⟨gb500, 0, none⟩ = some (.bool false) := bc BK500 0; have hfs43 := blk_frozen BK500.out 0; have hns43_0 := NB485_500.out; have hns43_1 := NB486_500.out; have hns43_2 := NB487_500.out; have hms43_0 := NB500_485.out; have hms43_1 := NB500_486.out; have hms43_2 := NB500_487.out; have hs44 : w42.cell? ⟨gb500, 1, none⟩ = some (.int .u64 0) := bc BK500 1; have hfs44 := blk_frozen BK500.out 1; have hns44_0 := NB485_500.out; have hns44_1 := NB486_500.out; have hns44_2 := NB487_500.out; have hms44_0 := NB500_485.out; have hms44_1 := NB500_486.out; have hms44_2 := NB500_487.out; have hs45 : w42.cell? ⟨gb500, 2, none⟩ = some (.int .u64 0) := bc BK500 2; have hfs45 := blk_frozen BK500.out 2; have hns45_0 := NB485_500.out; have hns45_1 := NB486_500.out; have hns45_2 := NB487_500.out; have hms45_0 := NB500_485.out; have hms45_1 := NB500_486.out; have hms45_2 := NB500_487.out; refine skip_ (w1 := ?_) (by rfl) rfl ?_ ?_; rotate_left
     ·(go_simp); rfl
     refine hK.out _ _ ⟨((cell_far (p := ⟨gb500, _, none⟩) NB485_500.out _).trans (((cell_far (p := ⟨gb500, _, none⟩) NB485_500.out _).trans (((cell_far (p := ⟨gb500, _, none⟩) NB485_500.out _).trans (hHeld.1)))))), ((cell_far (p := ⟨gb500, _, none⟩) NB485_500.out _).trans (((cell_far (p := ⟨gb500, _, none⟩) NB485_500.out _).trans (((cell_far (p := ⟨gb500, _, none⟩) NB485_500.out _).trans (hHeld.2.1)))))), ((cell_far (p := ⟨gb500, _, none⟩) NB486_500.out _).trans (((cell_far (p := ⟨gb500, _, none⟩) NB486_500.out _).trans (((cell_far (p := ⟨gb500, _, none⟩) NB486_500.out _).trans (hHeld.2.2.1)))))), ((cell_far (p := ⟨gb500, _, none⟩) NB486_500.out _).trans (((cell_far (p := ⟨gb500, _, none⟩) NB486_500.out _).trans (((cell_far (p := ⟨gb500, _, none⟩) NB486_500.out _).trans (hHeld.2.2.2))))))⟩ (fun hHeld => ?_); clear hK K; refine done_ (done_of HT_.out (by kernel_rfl)) ?_
     go_upto_region 6 with (fail)
     go_cut [55] (fun v55 wc => ∃ (kq : Nat) (x55_29 : Bool), v55 = .bool x55_29 ∧ Aside0 (ratio_Add.j1 kq t490 (IntKind.u64.wrap (Int.tdiv (IntKind.u64.wrap (a0_1)) t490)) (IntKind.u64.wrap (Int.tdiv (IntKind.u64.wrap (a1_1)) t490)) x55_29 t497 t498 t499 = some (r1, r2, r3)) ∧ Aside0 (kq ≤ kj2) ∧ Aside0 (wc.heap[gb485]? = some (.cells #[.int .i64 a0_0, .int .i64 a0_1] 24 (0, 0))) ∧ Aside0 (wc.heap[gb486]? = some (.cells #[.int .i64 a1_0, .int .i64 a1_1] 24 (0, 0))) ∧ Aside0 (wc.heap[gb487]? = some (.cells #[.int .i64 0, .int .i64 0] 24 (0, 0))) ∧ Aside0 (wc.heap[gb500]? = some (.cells #[.bool t497, .int .u64 t498, .int .u64 t499] 58 (0, 0))) ∧ Aside0 (Below w.heap.size w wc))
     case first =>
      have H := HC30.out; clear HC30
      by_cases c46 : t498 = 0
      ·rw [if_pos c46] at H; have c46b0 : (t498 == 0) = true := beq_iff_eq.mpr c46; have c46b1 : (t498 != 0) = false := bne_eq_false_iff_eq.mpr c46; clear c46
       (first | rw [c46b0] | (simp only [i64_w, i32_w]; rw [c46b0]) | skip)
       have H' := Aside0.mk H; clear H; obtain ⟨hnb47, hnc47⟩ := n2 NB500_485; obtain ⟨hnb48, hnc48⟩ := n2 NB500_486; obtain ⟨hnb49, hnc49⟩ := n2 NB500_487; have hcz50_0 : w42.cell? ⟨gb500, 0, none⟩ = some (.bool false) := bc BK500 0; have hcz50_1 : w42.cell? ⟨gb500, 1, none⟩ = some (.int .u64 0) := bc BK500 1; have hcz50_2 : w42.cell? ⟨gb500, 2, none⟩ = some (.int .u64 0) := bc BK500 2; have hfz50_0 := blk_frozen BK500.out 0; have hfz50_1 := blk_frozen BK500.out 1; have hfz50_2 := blk_frozen BK500.out 2; go_wp2
       go_meet
       case rel => exact ⟨_, ((t499 == 0)), (by first | rfl | (simp; done) | (simp [*]; done)), H', ⟨by have := HJ2.out; first | omega | exact Nat.le_refl _⟩, ⟨bq BK485⟩, ⟨bq BK486⟩, ⟨bq BK487⟩, ⟨by refine pe ?_; refine blk_put (cs := #[.bool t497, .int .u64 t498, .int .u64 0]) ?_ 2 _ rfl; refine pe ?_; refine blk_put (cs := #[.bool t497, .int .u64 0, .int .u64 0]) ?_ 1 _ rfl; refine pe ?_; refine blk_put (cs := #[.bool false, .int .u64 0, .int .u64 0]) ?_ 0 _ rfl; refine pe ?_; exact BK500.out⟩, ⟨bw HB⟩⟩
      ·rw [if_neg c46] at H; have c46b0 : (t498 == 0) = false := beq_eq_false_iff_ne.mpr c46; have c46b1 : (t498 != 0) = true := bne_iff_ne.mpr c46
       (first | rw [c46b0] | (simp only [i64_w, i32_w]; rw [c46b0]) | skip)
       have H' := Aside0.mk H; clear H; obtain ⟨hnb51, hnc51⟩ := n2 NB500_485; obtain ⟨hnb52, hnc52⟩ := n2 NB500_486; obtain ⟨hnb53, hnc53⟩ := n2 NB500_487; have hcz54_0 : w42.cell? ⟨gb500, 0, none⟩ = some (.bool false) := bc BK500 0; have hcz54_1 : w42.cell? ⟨gb500, 1, none⟩ = some (.int .u64 0) := bc BK500 1; have hcz54_2 : w42.cell? ⟨gb500, 2, none⟩ = some (.int .u64 0) := bc BK500 2; have hfz54_0 := blk_frozen BK500.out 0; have hfz54_1 := blk_frozen BK500.out 1; have hfz54_2 := blk_frozen BK500.out 2; go_wp2
       go_meet
       case rel => exact ⟨_, (false), (by first | rfl | (simp; done) | (simp [*]; done)), H', ⟨by have := HJ2.out; first | omega | exact Nat.le_refl _⟩, ⟨bq BK485⟩, ⟨bq BK486⟩, ⟨bq BK487⟩, ⟨by refine pe ?_; refine blk_put (cs := #[.bool t497, .int .u64 t498, .int .u64 0]) ?_ 2 _ rfl; refine pe ?_; refine blk_put (cs := #[.bool t497, .int .u64 0, .int .u64 0]) ?_ 1 _ rfl; refine pe ?_; refine blk_put (cs := #[.bool false, .int .u64 0, .int .u64 0]) ?_ 0 _ rfl; refine pe ?_; exact BK500.out⟩, ⟨bw HB⟩⟩
     case rest =>
      clear HC30; (try clear p2); (try clear c4); (try clear c5); (try clear c7); (try clear c46); (try clear c46b0); (try clear c46b1); (try clear c47); (try clear c48); (try clear c49); (try clear c51); (try clear c52); (try clear c53); (try clear hcz50_0); (try clear hcz50_1); (try clear hcz50_2); (try clear hcz54_0); (try clear hcz54_1); (try clear hcz54_2); (try clear hfz50_0); (try clear hfz50_1); (try clear hfz50_2); (try clear hfz54_0); (try clear hfz54_1); (try clear hfz54_2); obtain ⟨kq, x55_29, rfl, HA, HJ29, BK485, BK486, BK487, BK500, HB⟩ := hcut
      cases kq with
      | zero => exact absurd HA.out (by simp [ratio_Add.j1])
      | succ kj29 =>
       have H := HA.out; clear HA; simp only [ratio_Add.j1] at H
       by_cases c55 : x55_29 = true
       ·subst c55; (have H1 : (some (0, 1, 0)) = some (r1, r2, r3) := by rw [if_pos rfl] at H; exact H); clear H; have H := H1; clear H1; simp only [Option.some.injEq, Prod.mk.injEq] at H; obtain ⟨rfl, rfl, rfl⟩ := H; obtain ⟨hnb56, hnc56⟩ := n2 NB487_485; obtain ⟨hnb57, hnc57⟩ := n2 NB487_486; obtain ⟨hnb58, hnc58⟩ := n2 NB487_500; have hcz59_0 : wc.cell? ⟨gb487, 0, none⟩ = some (.int .i64 0) := bc BK487 0; have hcz59_1 : wc.cell? ⟨gb487, 1, none⟩ = some (.int .i64 0) := bc BK487 1; have hfz59_0 := blk_frozen BK487.out 0; have hfz59_1 := blk_frozen BK487.out 1; (go_wp2); refine bodyPost_ret (results_ct rfl _ _ gb487 24 #[.int .i64 0, .int .i64 1] (0, 0) _ rfl (by refine pe ?_; refine blk_put (cs := #[.int .i64 0, .int .i64 0]) ?_ 1 _ rfl; refine pe ?_; refine blk_put (cs := #[.int .i64 0, .int .i64 0]) ?_ 0 _ rfl; refine pe ?_; exact BK487.out) Tryd.underlying24 rfl (by kernel_rfl)) rfl ?_; exact ⟨by first | rfl | (simp [errW_none, errW_some] <;> rfl) | (simp [*, errW_none, errW_some] <;> rfl), bw HB⟩
       ·replace c55 := Bool.eq_false_iff.mpr c55; subst c55; (have H1 : ((bits_Rem64.f kj29 t498 t499 t490).bind fun t501 => ((ratio_gcd.f kj29 t490 t501).bind fun t502 => (if t502 = 0 then (none) else ((bits_Mul64.f (IntKind.u64.wrap (Int.tdiv t490 t502)) (IntKind.u64.wrap (Int.tdiv (IntKind.u64.wrap (a0_1)) t490))).bind fun bt503 => (if bt503.1 = 0 then ((bits_Mul64.f bt503.2 (IntKind.u64.wrap (Int.tdiv (IntKind.u64.wrap (a1_1)) t490))).bind fun bt505 => (if bt505.1 = 0 then ((ratio_wide_over.f kj29 t497 t498 t499 t502).bind fun bt507 => ((ratio_lowest.f kj29 bt507.1 bt507.2.1 bt507.2.2 bt505.2).bind fun bt510 => (some (bt510.1, bt510.2.1, bt510.2.2)))) else (some (0, 0, 6)))) else (some (0, 0, 6))))))) = some (r1, r2, r3) := by rw [if_neg (show ¬ (false = true) by decide)] at H; exact H); clear H; have H := H1; clear H1; replace H := Option.bind_eq_some_iff.mp H; obtain ⟨t501, A600, H⟩ := H; (try dsimp only at H); have A60 := Aside0.mk A600; clear A600; replace H := Option.bind_eq_some_iff.mp H; obtain ⟨t502, A610, H⟩ := H; (try dsimp only at H); have A61 := Aside0.mk A610; clear A610
        by_cases c62 : t502 = 0
        ·rw [if_pos c62] at H; exact absurd H (by simp)
        ·rw [if_neg c62] at H; have c62b0 : (t502 == 0) = false := beq_eq_false_iff_ne.mpr c62; have c62b1 : (t502 != 0) = true := bne_iff_ne.mpr c62; replace H := Option.bind_eq_some_iff.mp H; obtain ⟨⟨t503, t504⟩, A630, H⟩ := H; (try dsimp only at H); have A63 := Aside0.mk A630; clear A630; have HC64 := Aside0.mk H; clear H; obtain ⟨hnb65, hnc65⟩ := n2 NB500_485; obtain ⟨hnb66, hnc66⟩ := n2 NB500_486; obtain ⟨hnb67, hnc67⟩ := n2 NB500_487; have hcz68_0 : wc.cell? ⟨gb500, 0, none⟩ = some (.bool t497) := bc BK500 0; have hcz68_1 : wc.cell? ⟨gb500, 1, none⟩ = some (.int .u64 t498) := bc BK500 1; have hcz68_2 : wc.cell? ⟨gb500, 2, none⟩ = some (.int .u64 t499) := bc BK500 2; have hfz68_0 := blk_frozen BK500.out 0; have hfz68_1 := blk_frozen BK500.out 1; have hfz68_2 := blk_frozen BK500.out 2
         go_upto_if 74 with (first | ((with_reducible refine gate_callee (f := 69) rfl ?_); refine gl (some 63) Tryd.func69 #[.int .u64 t498, .int .u64 t499, .int .u64 t490] ?_; (with_reducible refine (bits_Rem64.calls kj29 t498 t499 t490 t501 _ A60.out).mono ?_); rintro e w' ⟨rfl, ⟨nd, rfl⟩⟩; refine ⟨_, rfl, ?_⟩) | ((with_reducible refine gate_callee (f := 68) rfl ?_); refine gl (some 64) Tryd.func68 #[.int .u64 t490, .int .u64 t501] ?_; (with_reducible refine (ratio_gcd.calls kj29 t490 t501 t502 _ A61.out).mono ?_); rintro e w' ⟨rfl, ⟨nd, rfl⟩⟩; refine ⟨_, rfl, ?_⟩) | ((with_reducible refine gate_callee (f := 45) rfl ?_); refine gl (some 70) Tryd.func45 #[.int .u64 (IntKind.u64.wrap (Int.tdiv t490 t502)), .int .u64 (IntKind.u64.wrap (Int.tdiv (IntKind.u64.wrap (a0_1)) t490))] ?_; (with_reducible refine (bits_Mul64.calls (IntKind.u64.wrap (Int.tdiv t490 t502)) (IntKind.u64.wrap (Int.tdiv (IntKind.u64.wrap (a0_1)) t490)) t503 t504 _ A63.out).mono ?_); rintro e w' ⟨rfl, ⟨nd, rfl⟩⟩; refine ⟨_, rfl, ?_⟩))
         (try simp only [Act.put, List.setIfInBounds_toArray, List.set_cons_zero, List.set_cons_succ]); have H := HC64.out; clear HC64
         by_cases c69 : t503 = 0
         ·rw [if_pos c69] at H; have c69b0 : (t503 == 0) = true := beq_iff_eq.mpr c69; have c69b1 : (t503 != 0) = false := bne_eq_false_iff_eq.mpr c69; clear c69
          (first | rw [c69b0] | (simp only [i64_w, i32_w]; rw [c69b0]) | skip)
          replace H := Option.bind_eq_some_iff.mp H; obtain ⟨⟨t505, t506⟩, A700, H⟩ := H; (try dsimp only at H); have A70 := Aside0.mk A700; clear A700
          by_cases c71 : t505 = 0
          ·rw [if_pos c71] at H; have c71b0 : (t505 == 0) = true := beq_iff_eq.mpr c71; have c71b1 : (t505 != 0) = false := bne_eq_false_iff_eq.mpr c71; clear c71; replace H := Option.bind_eq_some_iff.mp H; obtain ⟨⟨t507, t508, t509⟩, A720, H⟩ := H; (try dsimp only at H); have A72 := Aside0.mk A720; clear A720; replace H := Option.bind_eq_some_iff.mp H; obtain ⟨⟨t510, t511, t512⟩, A730, H⟩ := H; (try dsimp only at H); have A73 := Aside0.mk A730; clear A730; simp only [Option.some.injEq, Prod.mk.injEq] at H; obtain ⟨rfl, rfl, rfl⟩ := H; (go_wp2_with (first | ((with_reducible refine gate_callee (f := 45) rfl ?_); refine gl (some 79) Tryd.func45 #[.int .u64 t504, .int .u64 (IntKind.u64.wrap (Int.tdiv (IntKind.u64.wrap (a1_1)) t490))] ?_; (with_reducible refine (bits_Mul64.calls t504 (IntKind.u64.wrap (Int.tdiv (IntKind.u64.wrap (a1_1)) t490)) t505 t506 _ A70.out).mono ?_); rintro e w' ⟨rfl, ⟨nd, rfl⟩⟩; refine ⟨_, rfl, ?_⟩; (try (rw [drewN_self wc]; generalize hq_ : World.drewN wc _ = wc; replace BK485 : Aside0 (wc.heap[gb485]? = some (.cells #[.int .i64 a0_0, .int .i64 a0_1] 24 (0, 0))) := ⟨by rw [← hq_]; exact (bq BK485)⟩; replace BK486 : Aside0 (wc.heap[gb486]? = some (.cells #[.int .i64 a1_0, .int .i64 a1_1] 24 (0, 0))) := ⟨by rw [← hq_]; exact (bq BK486)⟩; replace BK487 : Aside0 (wc.heap[gb487]? = some (.cells #[.int .i64 0, .int .i64 0] 24 (0, 0))) := ⟨by rw [← hq_]; exact (bq BK487)⟩; replace BK500 : Aside0 (wc.heap[gb500]? = some (.cells #[.bool t497, .int .u64 t498, .int .u64 t499] 58 (0, 0))) := ⟨by rw [← hq_]; exact (bq BK500)⟩; replace HB : Aside0 (Below w.heap.size w wc) := ⟨by rw [← hq_]; exact (bw HB)⟩; clear hq_)); obtain ⟨hnb74, hnc74⟩ := n2 NB500_485; obtain ⟨hnb75, hnc75⟩ := n2 NB500_486; obtain ⟨hnb76, hnc76⟩ := n2 NB500_487; have hcz77_0 : wc.cell? ⟨gb500, 0, none⟩ = some (.bool t497) := bc BK500 0; have hcz77_1 : wc.cell? ⟨gb500, 1, none⟩ = some (.int .u64 t498) := bc BK500 1; have hcz77_2 : wc.cell? ⟨gb500, 2, none⟩ = some (.int .u64 t499) := bc BK500 2; have hfz77_0 := blk_frozen BK500.out 0; have hfz77_1 := blk_frozen BK500.out 1; have hfz77_2 := blk_frozen BK500.out 2) | ((with_reducible refine gate_callee (f := 70) rfl ?_); refine gl (some 87) Tryd.func70 #[.agg #[.bool t497, .int .u64 t498, .int .u64 t499], .int .u64 t502] ?_; (with_reducible refine (ratio_wide_over.calls kj29 t497 t498 t499 t502 t507 t508 t509 _ A72.out).mono ?_); rintro e w78 ⟨rfl, hb⟩; refine ⟨_, rfl, ?_⟩; replace BK485 := kb BK485 hb; replace BK486 := kb BK486 hb; replace BK487 := kb BK487 hb; replace BK500 := kb BK500 hb; replace HB := wb HB hb; (try clear hb); (try clear hb2); (try clear hk); (try clear hi)) | ((with_reducible refine gate_callee (f := 40) rfl ?_); refine gl (some 89) Tryd.func40 #[.agg #[.bool t507, .int .u64 t508, .int .u64 t509], .int .u64 t506] ?_; (with_reducible refine (ratio_lowest.calls kj29 t507 t508 t509 t506 t510 t511 t512 _ A73.out).mono ?_); rintro e w79 ⟨rfl, hb⟩; refine ⟨_, rfl, ?_⟩; replace BK485 := kb BK485 hb; replace BK486 := kb BK486 hb; replace BK487 := kb BK487 hb; replace BK500 := kb BK500 hb; replace HB := wb HB hb; (try clear hb); (try clear hb2); (try clear hk); (try clear hi); obtain ⟨hnb80, hnc80⟩ := n2 NB487_485; obtain ⟨hnb81, hnc81⟩ := n2 NB487_486; have hcz82_0 : w79.cell? ⟨gb487, 0, none⟩ = some (.int .i64 0) := bc BK487 0; have hcz82_1 : w79.cell? ⟨gb487, 1, none⟩ = some (.int .i64 0) := bc BK487 1; have hfz82_0 := blk_frozen BK487.out 0; have hfz82_1 := blk_frozen BK487.out 1))); refine bodyPost_ret (results_ct rfl _ _ gb487 24 #[.int .i64 t510, .int .i64 t511] (0, 0) _ rfl (by refine pe ?_; refine blk_put (cs := #[.int .i64 t510, .int .i64 0]) ?_ 1 _ rfl; refine pe ?_; refine blk_put (cs := #[.int .i64 0, .int .i64 0]) ?_ 0 _ rfl; refine pe ?_; exact BK487.out) Tryd.underlying24 rfl (by kernel_rfl)) rfl ?_; exact ⟨by first | rfl | (simp [errW_none, errW_some] <;> rfl) | (simp [*, errW_none, errW_some] <;> rfl), bw HB⟩
          ·rw [if_neg c71] at H; have c71b0 : (t505 == 0) = false := beq_eq_false_iff_ne.mpr c71; have c71b1 : (t505 != 0) = true := bne_iff_ne.mpr c71; simp only [Option.some.injEq, Prod.mk.injEq] at H; obtain ⟨rfl, rfl, rfl⟩ := H; (go_wp2_with (first | ((with_reducible refine gate_callee (f := 45) rfl ?_); refine gl (some 79) Tryd.func45 #[.int .u64 t504, .int .u64 (IntKind.u64.wrap (Int.tdiv (IntKind.u64.wrap (a1_1)) t490))] ?_; (with_reducible refine (bits_Mul64.calls t504 (IntKind.u64.wrap (Int.tdiv (IntKind.u64.wrap (a1_1)) t490)) t505 t506 _ A70.out).mono ?_); rintro e w' ⟨rfl, ⟨nd, rfl⟩⟩; refine ⟨_, rfl, ?_⟩; (try (rw [drewN_self wc]; generalize hq_ : World.drewN wc _ = wc; replace BK485 : Aside0 (wc.heap[gb485]? = some (.cells #[.int .i64 a0_0, .int .i64 a0_1] 24 (0, 0))) := ⟨by rw [← hq_]; exact (bq BK485)⟩; replace BK486 : Aside0 (wc.heap[gb486]? = some (.cells #[.int .i64 a1_0, .int .i64 a1_1] 24 (0, 0))) := ⟨by rw [← hq_]; exact (bq BK486)⟩; replace BK487 : Aside0 (wc.heap[gb487]? = some (.cells #[.int .i64 0, .int .i64 0] 24 (0, 0))) := ⟨by rw [← hq_]; exact (bq BK487)⟩; replace BK500 : Aside0 (wc.heap[gb500]? = some (.cells #[.bool t497, .int .u64 t498, .int .u64 t499] 58 (0, 0))) := ⟨by rw [← hq_]; exact (bq BK500)⟩; replace HB : Aside0 (Below w.heap.size w wc) := ⟨by rw [← hq_]; exact (bw HB)⟩; clear hq_)); obtain ⟨hnb83, hnc83⟩ := n2 NB487_485; obtain ⟨hnb84, hnc84⟩ := n2 NB487_486; obtain ⟨hnb85, hnc85⟩ := n2 NB487_500; have hcz86_0 : wc.cell? ⟨gb487, 0, none⟩ = some (.int .i64 0) := bc BK487 0; have hcz86_1 : wc.cell? ⟨gb487, 1, none⟩ = some (.int .i64 0) := bc BK487 1; have hfz86_0 := blk_frozen BK487.out 0; have hfz86_1 := blk_frozen BK487.out 1))); refine bodyPost_ret (results_ct rfl _ _ gb487 24 #[.int .i64 0, .int .i64 0] (0, 0) _ rfl (by refine pe ?_; refine blk_put (cs := #[.int .i64 0, .int .i64 0]) ?_ 1 _ rfl; refine pe ?_; refine blk_put (cs := #[.int .i64 0, .int .i64 0]) ?_ 0 _ rfl; refine pe ?_; exact BK487.out) Tryd.underlying24 rfl (by kernel_rfl)) rfl ?_; exact ⟨by first | rfl | (simp [errW_none, errW_some] <;> rfl) | (simp [*, errW_none, errW_some] <;> rfl), bw HB⟩
         ·rw [if_neg c69] at H; have c69b0 : (t503 == 0) = false := beq_eq_false_iff_ne.mpr c69; have c69b1 : (t503 != 0) = true := bne_iff_ne.mpr c69
          (first | rw [c69b0] | (simp only [i64_w, i32_w]; rw [c69b0]) | skip)
          simp only [Option.some.injEq, Prod.mk.injEq] at H; obtain ⟨rfl, rfl, rfl⟩ := H; obtain ⟨hnb87, hnc87⟩ := n2 NB487_485; obtain ⟨hnb88, hnc88⟩ := n2 NB487_486; obtain ⟨hnb89, hnc89⟩ := n2 NB487_500; have hcz90_0 : wc.cell? ⟨gb487, 0, none⟩ = some (.int .i64 0) := bc BK487 0; have hcz90_1 : wc.cell? ⟨gb487, 1, none⟩ = some (.int .i64 0) := bc BK487 1; have hfz90_0 := blk_frozen BK487.out 0; have hfz90_1 := blk_frozen BK487.out 1; (go_wp2); refine bodyPost_ret (results_ct rfl _ _ gb487 24 #[.int .i64 0, .int .i64 0] (0, 0) _ rfl (by refine pe ?_; refine blk_put (cs := #[.int .i64 0, .int .i64 0]) ?_ 1 _ rfl; refine pe ?_; refine blk_put (cs := #[.int .i64 0, .int .i64 0]) ?_ 0 _ rfl; refine pe ?_; exact BK487.out) Tryd.underlying24 rfl (by kernel_rfl)) rfl ?_; exact ⟨by first | rfl | (simp [errW_none, errW_some] <;> rfl) | (simp [*, errW_none, errW_some] <;> rfl), bw HB⟩

end Go.Proofs.YtbapkiclgkddcaaDoor.G

/- What reducing and adding signed magnitudes keep; the sum of the program; what Add tells. -/
namespace Go.Proofs.YtbapkiclgkddcaaDoor.Mth
open Go.RowKit Go.Proofs.YtbapkiclgkddcaaDoor.G Go.Proofs.YtbapkiclgkddcaaDoor.Given Go.Proofs.YtbapkiclgkddcaaDoorW.PrintWords Go.Proofs.YtbapkiclgkddcaaDoorW.PrintLast Go.Proofs.YtbapkiclgkddcaaDoorW.PrintMore
set_option linter.unusedVariables false

theorem red_scale (s : Bool) (k n d : Nat) (hk : 0 < k) : red s (k * n) (k * d) = red s n d := by
  unfold red; rw [Nat.gcd_mul_left, Nat.mul_div_mul_left _ _ hk, Nat.mul_div_mul_left _ _ hk]
theorem red_zero (s : Bool) (d : Nat) (hd : 0 < d) : red s 0 d = (0, 1, 0) := by
  unfold red; rw [Nat.gcd_zero_left, Nat.zero_div, Nat.div_self hd]
  cases s <;> rfl
theorem red_coprime (s : Bool) (n d : Nat) (h : Nat.gcd n d = 1) (hd : 1152921504606846976 < d) : red s n d = (0, 0, 6) := by
  unfold red; rw [h, Nat.div_one, Nat.div_one, if_neg (by omega)]
theorem tot_scale (k : Nat) (hk : 0 < k) (x : Bool) (a : Nat) (y : Bool) (b : Nat) : tot x (k * a) y (k * b) = ((tot x a y b).1, k * (tot x a y b).2) := by
  by_cases h : x = y
  · rw [tot_same _ _ h, tot_same _ _ h, Nat.mul_add]
  · by_cases hl : b ≤ a
    · rw [tot_ge h hl, tot_ge h (Nat.mul_le_mul_left k hl), Nat.mul_sub]
    · rw [tot_lt h hl, tot_lt h (fun c => hl (Nat.le_of_mul_le_mul_left c hk)), Nat.mul_sub]
theorem tot_le (x : Bool) (a : Nat) (y : Bool) (b : Nat) : (tot x a y b).2 ≤ a + b := by
  by_cases h : x = y
  · rw [tot_same _ _ h]; exact Nat.le_refl _
  · by_cases hl : b ≤ a
    · rw [tot_ge h hl]; show a - b ≤ a + b; omega
    · rw [tot_lt h hl]; show b - a ≤ a + b; omega
/-- what divides the sum and one part divides the other part -/
theorem tot_dvd_left {k : Nat} {x : Bool} {a : Nat} {y : Bool} {b : Nat} (ht : k ∣ (tot x a y b).2) (hb : k ∣ b) : k ∣ a := by
  by_cases h : x = y
  · rw [tot_same _ _ h] at ht; exact (Nat.dvd_add_left hb).1 ht
  · by_cases hl : b ≤ a
    · rw [tot_ge h hl] at ht
      have ht' : k ∣ a - b := ht; have := Nat.dvd_add ht' hb
      rwa [Nat.sub_add_cancel hl] at this
    · rw [tot_lt h hl] at ht
      have ht' : k ∣ b - a := ht; have := Nat.dvd_sub hb ht'
      rwa [show b - (b - a) = a from by omega] at this
theorem tot_dvd_right {k : Nat} {x : Bool} {a : Nat} {y : Bool} {b : Nat} (ht : k ∣ (tot x a y b).2) (ha : k ∣ a) : k ∣ b := by
  by_cases h : x = y
  · rw [tot_same _ _ h] at ht; exact (Nat.dvd_add_right ha).1 ht
  · by_cases hl : b ≤ a
    · rw [tot_ge h hl] at ht
      have ht' : k ∣ a - b := ht; have := Nat.dvd_sub ha ht'
      rwa [show a - (a - b) = b from by omega] at this
    · rw [tot_lt h hl] at ht
      have ht' : k ∣ b - a := ht; have := Nat.dvd_add ht' ha
      rwa [Nat.sub_add_cancel (by omega)] at this
theorem coprime_part {A q p : Nat} (h1 : Nat.gcd p A = 1) (h2 : Nat.gcd p q = 1) {k : Nat} (hk : k ∣ p) (hd : k ∣ A * q) : k = 1 := by
  have h3 : Nat.gcd k A = 1 := Nat.Coprime.coprime_dvd_left hk h1; have h4 : k ∣ q := Nat.Coprime.dvd_of_dvd_mul_left h3 hd; have := Nat.dvd_gcd hk h4; rw [h2] at this; exact Nat.dvd_one.1 this

theorem add64_eq (x y z : Nat) (hz : z ≤ 1) : bits_Add64.f x y z = some ((((x + y + z) % 18446744073709551616 : Nat) : Int), (((x + y + z) / 18446744073709551616 : Nat) : Int)) := by
  unfold bits_Add64.f; rw [if_pos (by omega)]; rfl
theorem wplus_ev (x : Bool) (a : Nat) (y : Bool) (b : Nat) (h : a + b < 340282366920938463463374607431768211456) :
    Ev (fun k => ratio_wide_plus.f k x (hi a) (lo a) y (hi b) (lo b)) ((tot x a y b).1, hi (tot x a y b).2, lo (tot x a y b).2) := by
  have hm (a b : Nat) (hab : b ≤ a) (ha : a < 340282366920938463463374607431768211456) (z : Bool) : ((bits_Sub64.f (lo a) (lo b) 0).bind fun bt545 => ((bits_Sub64.f (hi a) (hi b) bt545.2).bind fun bt547 => some (z, bt547.1, bt545.1))) = some (z, hi (a - b), lo (a - b)) := by
    have := minus_eq a b ha (by omega); rw [show (a + 340282366920938463463374607431768211456 - b) % 340282366920938463463374607431768211456 = a - b from by omega] at this; unfold r1_Minus.f at this
    cases e1 : bits_Sub64.f (lo a) (lo b) 0 with
    | none => rw [e1] at this; simp at this
    | some v =>
      rw [e1, Option.bind_some] at this; rw [Option.bind_some]
      cases e2 : bits_Sub64.f (hi a) (hi b) v.2 with
      | none => rw [e2] at this; simp at this
      | some u =>
        rw [e2, Option.bind_some] at this; rw [Option.bind_some]; simp only [Option.some.injEq, Prod.mk.injEq] at this; rw [this.1, this.2]
  by_cases hxy : x = y
  · rw [tot_same a b hxy]
    refine Ev.congr (fun k => ?_) (Ev.now _); have := plus_eq a b (by omega) (by omega); rw [Nat.mod_eq_of_lt h] at this; unfold r1_Plus.f at this; unfold ratio_wide_plus.f; rw [if_pos (by simpa using hxy)]
    cases e1 : bits_Add64.f (lo a) (lo b) 0 with
    | none => rw [e1] at this; simp at this
    | some v =>
      rw [e1, Option.bind_some] at this; rw [Option.bind_some]
      cases e2 : bits_Add64.f (hi a) (hi b) v.2 with
      | none => rw [e2] at this; simp at this
      | some u =>
        rw [e2, Option.bind_some] at this; rw [Option.bind_some]; simp only [Option.some.injEq, Prod.mk.injEq] at this; rw [this.1, this.2]
  · refine Ev.congr (fun k => by unfold ratio_wide_plus.f; rw [if_neg (by simpa using hxy)]) ?_
    refine Ev.bind (wcompare_ev x y a b) ?_; refine Ev.congr (fun k => ?_) (Ev.now _); unfold cmpN
    by_cases hl : b ≤ a
    · rw [tot_ge hxy hl, if_neg (by repeat' (first | omega | split)), hm a b hl (by omega)]
    · rw [tot_lt hxy hl, if_pos (by rw [if_pos (by omega)]; omega), hm b a (by omega) (by omega)]

/-- what Add tells -/
def addR (a b c d : Int) : Int × Int × Int :=
  if okR a b ∧ okR c d then red (tot (decide (a < 0)) (a.natAbs * d.natAbs) (decide (c < 0)) (c.natAbs * b.natAbs)).1 (tot (decide (a < 0)) (a.natAbs * d.natAbs) (decide (c < 0)) (c.natAbs * b.natAbs)).2 (b.natAbs * d.natAbs) else (0, 0, 1)

/-- the heart: with the common divisor of the denominators taken out, only a divisor of it cancels -/
theorem add_core (s : Bool) (g p q t c : Nat) (hg : 0 < g) (hp : 0 < p) (hq : 0 < q) (hc : c = Nat.gcd g t) (h1 : Nat.gcd t p = 1) (h2 : Nat.gcd t q = 1) :
    red s (g * t) (g * p * (g * q)) = red s (t / c) (g / c * p * q) ∧ Nat.gcd (t / c) (g / c * p * q) = 1 := by
  (have hc0 : 0 < c := by rw [hc]; exact Nat.gcd_pos_of_pos_left _ hg); (have ct : c ∣ t := by rw [hc]; exact Nat.gcd_dvd_right _ _); (have cg : c ∣ g := by rw [hc]; exact Nat.gcd_dvd_left _ _); constructor
  · rw [show g * p * (g * q) = g * (g * p * q) from by rw [Nat.mul_left_comm (g * p) g q], red_scale s g _ _ hg]
    obtain ⟨u, hu⟩ := ct; obtain ⟨v, hv⟩ := cg; rw [hu, hv, Nat.mul_div_cancel_left u hc0, Nat.mul_div_cancel_left v hc0, show c * v * p * q = c * (v * p * q) from by simp only [Nat.mul_assoc], red_scale s c _ _ hc0]
  · have e1 : Nat.Coprime (t / c) (g / c) := by
      rw [hc, Nat.gcd_comm g t]; exact Nat.coprime_div_gcd_div_gcd (by rw [Nat.gcd_comm, ← hc]; exact hc0)
    have e2 : Nat.Coprime (t / c) p := Nat.Coprime.coprime_dvd_left (Nat.div_dvd_of_dvd ct) h1; have e3 : Nat.Coprime (t / c) q := Nat.Coprime.coprime_dvd_left (Nat.div_dvd_of_dvd ct) h2; exact Nat.Coprime.mul_right (Nat.Coprime.mul_right e1 e2) e3
end Go.Proofs.YtbapkiclgkddcaaDoor.Mth

/- The reference's number and index: what they tell of a text. -/
namespace Go.Proofs.YtbapkiclgkddcaaDoor.Mth
open Go.RowKit Go.Proofs.YtbapkiclgkddcaaDoor.G Go.Proofs.YtbapkiclgkddcaaDoor.Given Go.Proofs.YtbapkiclgkddcaaDoorW.PrintWords Go.Proofs.YtbapkiclgkddcaaDoorW.PrintLast Go.Proofs.YtbapkiclgkddcaaDoorW.PrintMore
set_option linter.unusedVariables false
theorem nxb (i : Nat) (h : i ≤ 9223372036854775806) : wrap64 ((i : Int) + 1) = ((i + 1 : Nat) : Int) := by unfold wrap64; omega
theorem product_eq (x y : Nat) (hx : x < 18446744073709551616) (hy : y < 18446744073709551616) : r1_Product.f x y = some (hi (x * y), lo (x * y)) := by
  unfold r1_Product.f; rw [mul64_eq x y hx hy]; rfl
theorem red_sign (s : Bool) (n C : Nat) (hC : 0 < C) : red (s && !decide (n = 0)) n C = red s n C := by
  by_cases h : n = 0
  · subst h; rw [red_zero _ _ hC, red_zero _ _ hC]
  · rw [decide_eq_false h, Bool.not_false, Bool.and_true]
theorem bt_list (s : ByteArray) (i : Nat) (c : UInt8) (r : List UInt8) (h : s.data.toList.drop i = c :: r) : i < s.size ∧ bt s i = (c.toNat : Int) ∧ s.data.toList.drop (i + 1) = r := by
  have hl : s.data.toList.length = s.size := by simp
  have hi : i < s.data.toList.length := by
    apply Decidable.byContradiction; intro hc; rw [List.drop_eq_nil_of_le (by omega)] at h
    cases h
  rw [List.drop_eq_getElem_cons hi] at h; injection h with h1 h2; refine ⟨by omega, ?_, h2⟩; unfold bt; rw [dif_pos (show (i : Int).toNat < s.size by simp; omega)]; rw [← h1]; rfl
theorem bt_nil (s : ByteArray) (i : Nat) (h : s.data.toList.drop i = []) : s.size ≤ i := by
  (have hl : s.data.toList.length = s.size := by simp); have := List.drop_eq_nil_iff.1 h; omega
theorem number_l (s : ByteArray) (hs : s.size ≤ 19) : ∀ (r : List UInt8) (i acc : Nat), s.data.toList.drop i = r → i ≤ s.size → acc < 10 ^ (19 - r.length) → Ev (fun k => r1_number.l0 k s acc i) (if allD r = true then ((dval acc r : Int), true) else (0, false)) := by
  intro r
  induction r with
  | nil =>
    intro i acc h hi ha; have := bt_nil s i h; refine Ev.step (f := fun _ => some ((acc : Int), true)) (fun k => ?_) (Ev.now _); simp only [r1_number.l0]; rw [if_neg (by omega)]
  | cons c r ih =>
    intro i acc h hi ha; obtain ⟨h1, h2, h3⟩ := bt_list s i c r h; have hl : s.data.toList.length = s.size := by simp
    have hr : r.length + 1 + i = s.size := by
      have := congrArg List.length h; rw [List.length_drop, List.length_cons] at this; omega
    rw [List.length_cons] at ha; (have e : 19 - r.length = (19 - (r.length + 1)) + 1 := by omega); have hb := lt_B acc r.length ha; have hall : allD (c :: r) = (isD c && allD r) := by unfold allD; rw [List.all_cons]
    cases hc : isD c with
    | true =>
      obtain ⟨b1, b2⟩ := isD_bd hc; (have hn : acc * 10 + (c.toNat - 48) < 10 ^ (19 - r.length) := by rw [e, Nat.pow_succ]; omega); have i2 := ih (i + 1) (acc * 10 + (c.toNat - 48)) h3 (by omega) hn; rw [hall, hc, Bool.true_and]; refine Ev.step (fun k => ?_) i2; simp only [r1_number.l0]; rw [if_pos (by omega), if_pos (by omega), h2, if_neg (by omega), if_neg (by omega), nxb i (by omega)]
      have w : IntKind.u64.wrap (IntKind.u64.wrap (10 * (acc : Int)) + (((c.toNat : Int) - 48) % 256)) = ((acc * 10 + (c.toNat - 48) : Nat) : Int) := by
        rw [wu, wu]; omega
      rw [w]
    | false =>
      rw [hall, hc, Bool.false_and]; refine Ev.step (f := fun _ => some (0, false)) (fun k => ?_) (Ev.now _); simp only [r1_number.l0]; rw [if_pos (by omega), if_pos (by omega), h2]; unfold isD at hc
      by_cases c1 : (c.toNat : Int) < 48
      · rw [if_pos c1]
      · rw [if_neg c1, if_pos]
        have : ¬ (48 ≤ c.toNat ∧ c.toNat ≤ 57) := by
          intro hh; rw [decide_eq_true hh.1, decide_eq_true hh.2] at hc
          cases hc
        omega
/-- what number tells -/
def num (s : ByteArray) (m : Nat) : Int × Bool := if 1 ≤ s.size ∧ s.size ≤ m ∧ allD s.data.toList = true then ((dval 0 s.data.toList : Int), true) else (0, false)
theorem number_ev (s : ByteArray) (m : Nat) (hm : m ≤ 19) : Ev (fun k => r1_number.f k s m) (num s m) := by
  (have hl : s.data.toList.length = s.size := by simp); unfold num
  by_cases h1 : 1 ≤ s.size ∧ s.size ≤ m
  · have h2 := number_l s (by omega) s.data.toList 0 0 rfl (by omega) (Nat.pow_pos (by omega))
    have h3 : (if 1 ≤ s.size ∧ s.size ≤ m ∧ allD s.data.toList = true then ((dval 0 s.data.toList : Int), true) else (0, false)) = (if allD s.data.toList = true then ((dval 0 s.data.toList : Int), true) else (0, false)) := by
      by_cases h4 : allD s.data.toList = true
      · rw [if_pos ⟨h1.1, h1.2, h4⟩, if_pos h4]
      · rw [if_neg (fun h => h4 h.2.2), if_neg h4]
    rw [h3]; refine Ev.congr (f := fun k => r1_number.j0 k s false) (fun k => ?_) (Ev.step (fun k => ?_) h2)
    · unfold r1_number.f
      rw [if_neg (by omega), decide_eq_false (by omega)]
    · simp only [r1_number.j0]
      rfl
  · rw [if_neg (fun h => h1 ⟨h.1, h.2.1⟩)]
    refine Ev.congr (f := fun k => r1_number.j0 k s true) (fun k => ?_) (Ev.step (f := fun _ => some (0, false)) (fun k => ?_) (Ev.now _))
    · unfold r1_number.f
      by_cases h2 : (s.size : Int) < 1
      · rw [if_pos h2]
      · rw [if_neg h2, decide_eq_true (by omega)]
    · simp only [r1_number.j0]
      rfl
/-- the first place of a byte, else -1 -/
def idx (c : Nat) : List UInt8 → Int
  | [] => -1
  | b :: l => if b.toNat = c then 0 else if idx c l = -1 then -1 else idx c l + 1
theorem idx_ge (c : Nat) : ∀ l, -1 ≤ idx c l ∧ idx c l < l.length := by
  intro l
  induction l with
  | nil => simp [idx]
  | cons b l ih =>
    simp only [idx, List.length_cons]
    split
    · omega
    · split
      · omega
      · omega
theorem index_l (s : ByteArray) (c : Nat) (hs : s.size ≤ 9223372036854775806) : ∀ (r : List UInt8) (i : Nat), s.data.toList.drop i = r → i ≤ s.size → Ev (fun k => r1_index.l0 k s c i) (if idx c r = -1 then -1 else (i : Int) + idx c r) := by
  intro r
  induction r with
  | nil =>
    intro i h hi; have := bt_nil s i h; refine Ev.step (f := fun _ => some (-1)) (fun k => ?_) (Ev.now _); simp only [r1_index.l0]; rw [if_neg (by omega)]
  | cons b r ih =>
    intro i h hi; obtain ⟨h1, h2, h3⟩ := bt_list s i b r h; have g := idx_ge c r
    by_cases hc : b.toNat = c
    · have e : idx c (b :: r) = 0 := by simp only [idx]; rw [if_pos hc]
      rw [e, if_neg (by omega)]; refine Ev.step (f := fun _ => some ((i : Int) + 0)) (fun k => ?_) (Ev.now _); simp only [r1_index.l0]; rw [if_pos (by omega), if_pos (by omega), h2, if_pos (by omega), Int.add_zero]
    · have e : (if idx c (b :: r) = -1 then (-1 : Int) else (i : Int) + idx c (b :: r)) = (if idx c r = -1 then -1 else ((i + 1 : Nat) : Int) + idx c r) := by
        have e2 : idx c (b :: r) = if idx c r = -1 then -1 else idx c r + 1 := by simp only [idx]; rw [if_neg hc]
        by_cases h4 : idx c r = -1
        · rw [if_pos h4] at e2
          rw [if_pos h4, if_pos e2]
        · rw [if_neg h4] at e2
          rw [if_neg h4, if_neg (by omega)]; omega
      rw [e]; refine Ev.step (fun k => ?_) (ih (i + 1) h3 (by omega)); simp only [r1_index.l0]; rw [if_pos (by omega), if_pos (by omega), h2, if_neg (by omega), nxb i (by omega)]
theorem index_ev (s : ByteArray) (c : Nat) (hs : s.size ≤ 9223372036854775806) : Ev (fun k => r1_index.f k s c) (idx c s.data.toList) := by
  have h := index_l s c hs s.data.toList 0 rfl (by omega)
  have e : (if idx c s.data.toList = -1 then (-1 : Int) else ((0 : Nat) : Int) + idx c s.data.toList) = idx c s.data.toList := by
    split
    · rename_i h; rw [h]
    · omega
  rw [e] at h; exact Ev.congr (fun k => rfl) h
end Go.Proofs.YtbapkiclgkddcaaDoor.Mth

/- ratio.Parse behind its cut, and the reference's Parse: both tell the same three laws. -/
namespace Go.Proofs.YtbapkiclgkddcaaDoor.Mth
open Go.RowKit Go.Proofs.YtbapkiclgkddcaaDoor.G Go.Proofs.YtbapkiclgkddcaaDoor.Given Go.Proofs.YtbapkiclgkddcaaDoorW.PrintWords Go.Proofs.YtbapkiclgkddcaaDoorW.PrintLast Go.Proofs.YtbapkiclgkddcaaDoorW.PrintMore
set_option linter.unusedVariables false
def okd (s : ByteArray) (m : Nat) : Bool := decide (1 ≤ s.size ∧ s.size ≤ m) && allD s.data.toList
def va (s : ByteArray) : Nat := dval 0 s.data.toList
def R47 (neg : Bool) (wh be : ByteArray) : Int × Int × Int := if okd wh 19 = true then (if okd be 19 = true then (if va be = 0 then (0, 0, 2) else red neg (va wh) (va be)) else (0, 0, 7)) else (0, 0, 7)
def R46 (neg : Bool) (wh be : ByteArray) : Int × Int × Int := if okd wh 19 = true then (if okd be 9 = true then red neg (va wh * 10 ^ be.size + va be) (10 ^ be.size) else (0, 0, 7)) else (0, 0, 7)
def R0 (neg : Bool) (wh : ByteArray) : Int × Int × Int := if okd wh 19 = true then red neg (va wh) 1 else (0, 0, 7)
theorem okd_iff {s : ByteArray} {m : Nat} (h : okd s m = true) : 1 ≤ s.size ∧ s.size ≤ m ∧ allD s.data.toList = true := by
  unfold okd at h; rw [Bool.and_eq_true, decide_eq_true_eq] at h; exact ⟨h.1.1, h.1.2, h.2⟩
theorem num_okd (s : ByteArray) (m : Nat) : num s m = if okd s m = true then ((va s : Int), true) else (0, false) := by
  unfold num va
  by_cases h : okd s m = true
  · rw [if_pos h, if_pos (okd_iff h)]
  · rw [if_neg h, if_neg]
    intro h2; apply h; unfold okd; rw [decide_eq_true ⟨h2.1, h2.2.1⟩, h2.2.2]; rfl
theorem va_u {s : ByteArray} {m : Nat} (hm : m ≤ 19) (h : okd s m = true) : parseU s = some (va s) ∧ va s < 10000000000000000000 := by
  obtain ⟨a, b, c⟩ := okd_iff h; exact parseU_eq s c a (by omega)
theorem allD_ascii {l : List UInt8} (h : allD l = true) : asciiB l = true := by
  unfold allD at h; unfold asciiB; rw [List.all_eq_true] at h ⊢; intro x hx; have := isD_bd (h x hx); exact decide_eq_true (by omega)
theorem p10 (m : Nat) (h : m ≤ 9) : 0 < 10 ^ m ∧ 10 ^ m ≤ 1000000000 := ⟨Nat.pow_pos (by omega), Nat.le_trans (Nat.pow_le_pow_right (by omega) h) (by decide)⟩
theorem digits_okd (s : ByteArray) (m : Nat) (hs : s.size ≤ 9223372036854775807) : ratio_digits.f s m = some (okd s m) := digits_eq s m hs
theorem low_small (neg : Bool) (n d : Nat) (hn : n < 10000000000000000000) (hd : d < 10000000000000000000) (h0 : 0 < d) : Ev (fun k => ratio_lowest.f k neg 0 n d) (red neg n d) := by
  have := lowest_ev neg n d (by omega) (by omega) h0; rw [hi_small (by omega), lo_small (by omega)] at this; exact this
theorem tail47 (neg : Bool) (wh be : ByteArray) (h1 : wh.size ≤ 9223372036854775807) (h2 : be.size ≤ 9223372036854775807) : Ev (fun k => ratio_Parse.tail k neg wh be 47) (R47 neg wh be) := by
  unfold R47; refine Ev.congr (fun k => by unfold ratio_Parse.tail; rw [show (19 : Int) = ((19 : Nat) : Int) from rfl, digits_okd wh 19 h1, Option.bind_some]) ?_
  by_cases c1 : okd wh 19 = true
  · rw [if_pos c1]
    refine Ev.congr (fun k => by rw [if_pos c1, if_pos rfl, digits_okd be 19 h2, Option.bind_some]) ?_
    by_cases c2 : okd be 19 = true
    · rw [if_pos c2]
      obtain ⟨u1, b1⟩ := va_u (by omega) c1; obtain ⟨u2, b2⟩ := va_u (by omega) c2; refine Ev.congr (fun k => by rw [if_pos c2, u1, Option.bind_some, u2, Option.bind_some]) ?_
      by_cases c3 : va be = 0
      · rw [if_pos c3]
        exact Ev.congr (fun k => by rw [if_pos c3]) (Ev.now _)
      · rw [if_neg c3]
        exact Ev.congr (fun k => by rw [if_neg c3]) (low_small neg _ _ b1 b2 (by omega))
    · rw [if_neg c2]
      exact Ev.congr (fun k => by rw [if_neg c2]) (Ev.now _)
  · rw [if_neg c1]
    exact Ev.congr (fun k => by rw [if_neg c1]) (Ev.now _)
theorem tail0 (neg : Bool) (wh be : ByteArray) (h1 : wh.size ≤ 9223372036854775807) : Ev (fun k => ratio_Parse.tail k neg wh be 0) (R0 neg wh) := by
  unfold R0; refine Ev.congr (fun k => by unfold ratio_Parse.tail; rw [show (19 : Int) = ((19 : Nat) : Int) from rfl, digits_okd wh 19 h1, Option.bind_some]) ?_
  by_cases c1 : okd wh 19 = true
  · rw [if_pos c1]
    obtain ⟨u1, b1⟩ := va_u (by omega) c1; refine Ev.congr (fun k => by rw [if_pos c1, if_neg (by decide), if_neg (by decide), u1, Option.bind_some]) ?_; exact low_small neg _ 1 b1 (by omega) (by omega)
  · rw [if_neg c1]
    exact Ev.congr (fun k => by rw [if_neg c1]) (Ev.now _)
theorem tail46 (neg : Bool) (wh be : ByteArray) (h1 : wh.size ≤ 9223372036854775807) (h2 : be.size ≤ 9223372036854775807) : Ev (fun k => ratio_Parse.tail k neg wh be 46) (R46 neg wh be) := by
  unfold R46; refine Ev.congr (fun k => by unfold ratio_Parse.tail; rw [show (19 : Int) = ((19 : Nat) : Int) from rfl, digits_okd wh 19 h1, Option.bind_some]) ?_
  by_cases c1 : okd wh 19 = true
  · rw [if_pos c1]
    refine Ev.congr (fun k => by rw [if_pos c1, if_neg (by decide), if_pos rfl, show (9 : Int) = ((9 : Nat) : Int) from rfl, digits_okd be 9 h2, Option.bind_some]) ?_
    by_cases c2 : okd be 9 = true
    · rw [if_pos c2]
      obtain ⟨u1, b1⟩ := va_u (by omega) c1; obtain ⟨u2, b2⟩ := va_u (by omega) c2; obtain ⟨q1, q2, q3⟩ := okd_iff c2; obtain ⟨t1, t2⟩ := p10 be.size q2; obtain ⟨T, hT⟩ : ∃ T, 10 ^ be.size = T := ⟨_, rfl⟩; rw [hT] at t1 t2; have hm := mul64_eq (va wh) T (by omega) (by omega); have hp : va wh * T ≤ 10000000000000000000 * 1000000000 := Nat.mul_le_mul (by omega) t2; have hw := wplus_ev neg (va wh * T) neg (va be) (by omega); rw [tot_same _ _ rfl, hi_small (n := va be) (by omega), lo_small (n := va be) (by omega)] at hw; have hl := lowest_ev neg (va wh * T + va be) T (by omega) (by omega) t1; refine Ev.congr (fun k => by rw [if_pos c2, if_pos ⟨allD_ascii q3, q2⟩, u1, Option.bind_some, u2, Option.bind_some, hT, hm, Option.bind_some]) ?_; rw [hT]; exact Ev.bind hw hl
    · rw [if_neg c2]
      exact Ev.congr (fun k => by rw [if_neg c2]) (Ev.now _)
  · rw [if_neg c1]
    exact Ev.congr (fun k => by rw [if_neg c1]) (Ev.now _)
/-! the reference -/
theorem sgn_eq (neg : Bool) (n d : Nat) (h0 : 0 < d) (b : Bool) (hb : b = true ↔ n ≠ 0) : red (neg && b) n d = red neg n d := by
  have e : b = !decide (n = 0) := by
    by_cases h : n = 0
    · rw [decide_eq_true h]
      cases b with
      | true => exact absurd h (hb.1 rfl)
      | false => rfl
    · rw [decide_eq_false h, hb.2 h]; rfl
  rw [e]; exact red_sign neg n d h0
theorem fred (neg : Bool) (n d : Nat) (hn : n < 340282366920938463463374607431768211456) (hd : d < 10000000000000000000) (h0 : 0 < d) (b : Bool) (hb : b = true ↔ n ≠ 0) :
    Ev (fun k => if neg = true then ((r1_Reduce.f k b (hi n) (lo n) 0 d).bind fun bt => some (bt.1, bt.2.1, bt.2.2)) else ((r1_Reduce.f k false (hi n) (lo n) 0 d).bind fun bt => some (bt.1, bt.2.1, bt.2.2))) (red neg n d) := by
  cases neg with
  | true =>
    have h := reduce_ev b n d hn (by omega) h0; rw [hi_small (n := d) (by omega), lo_small (n := d) (by omega), show red b n d = red true n d from sgn_eq true n d h0 b hb] at h; exact Ev.congr (fun k => by rw [if_pos rfl]) (Ev.bind h (Ev.now _))
  | false =>
    have h := reduce_ev false n d hn (by omega) h0; rw [hi_small (n := d) (by omega), lo_small (n := d) (by omega)] at h; exact Ev.congr (fun k => by rw [if_neg (by decide)]) (Ev.bind h (Ev.now _))
theorem fred0 (neg : Bool) (n d : Nat) (hn : n < 10000000000000000000) (hd : d < 10000000000000000000) (h0 : 0 < d) :
    Ev (fun k => if neg = true then ((r1_Reduce.f k (decide ((n : Int) > 0)) 0 n 0 d).bind fun bt => some (bt.1, bt.2.1, bt.2.2)) else ((r1_Reduce.f k false 0 n 0 d).bind fun bt => some (bt.1, bt.2.1, bt.2.2))) (red neg n d) := by
  have h := fred neg n d (by omega) hd h0 (decide ((n : Int) > 0)) (by rw [decide_eq_true_eq]; omega); rw [hi_small (n := n) (by omega), lo_small (n := n) (by omega)] at h; exact h
theorem jj2 (neg : Bool) (wh be : ByteArray) : Ev (fun k => if (num wh 19).2 = true then r1_Parse.j2 k neg (num wh 19).1 (num be 19).1 (!(num be 19).2) else r1_Parse.j2 k neg (num wh 19).1 (num be 19).1 true) (R47 neg wh be) := by
  unfold R47; have z (x y : Int) : Ev (fun k => r1_Parse.j2 k neg x y true) (0, 0, 7) := ev_some (fun k => by simp only [r1_Parse.j2]; rw [if_pos trivial]); rw [num_okd, num_okd]
  by_cases c1 : okd wh 19 = true
  · rw [if_pos c1, if_pos c1]
    refine Ev.congr (fun k => by rw [if_pos rfl]) ?_
    by_cases c2 : okd be 19 = true
    · rw [if_pos c2, if_pos c2]
      obtain ⟨u1, b1⟩ := va_u (by omega) c1; obtain ⟨u2, b2⟩ := va_u (by omega) c2
      by_cases c3 : va be = 0
      · rw [if_pos c3, c3]
        exact ev_some (fun k => by simp only [r1_Parse.j2]; rfl)
      · rw [if_neg c3]
        refine Ev.step (fun k => ?_) (fred0 neg (va wh) (va be) b1 b2 (by omega)); simp only [r1_Parse.j2]; rw [if_neg (by decide), if_neg (by omega)]
    · rw [if_neg c2, if_neg c2]
      exact z _ _
  · rw [if_neg c1, if_neg c1]
    exact Ev.congr (fun k => by rw [if_neg (by decide)]) (z _ _)
end Go.Proofs.YtbapkiclgkddcaaDoor.Mth
