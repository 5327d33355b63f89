/- Texts of this claim laid together: MathE. -/
import Derived.Test.YtcbohbeipgcfhaaZSon11
import Derived.Test.YtcbohbeipgcfhaaZSon12
import Derived.Lib.Mul64
/- Products, sums and comparisons of signed numbers of 128 bits; Compare of the program tells what cmpR tells, for all numbers. -/
namespace Go.Proofs.Ytcbohbeipgcfhaa.Mth
open Go.RowKit Go.Proofs.Ytcbohbeipgcfhaa.G Go.Proofs.Ytcbohbeipgcfhaa.Given Go.Proofs.YtcbohbeipgcfhaaW.PrintWords Go.Proofs.YtcbohbeipgcfhaaW.PrintLast Go.Proofs.YtcbohbeipgcfhaaW.PrintMore
set_option linter.unusedVariables false

theorem divN (a : Nat) : (a : Int) / 4294967296 = ((a / 4294967296 : Nat) : Int) := by omega
theorem mulN (a b : Nat) : (a : Int) * (b : Int) = ((a * b : Nat) : Int) := (Int.natCast_mul a b).symm
theorem addN (a b : Nat) : (a : Int) + (b : Int) = ((a + b : Nat) : Int) := (Int.natCast_add a b).symm
theorem wrapN (a : Nat) (ha : a < 18446744073709551616) : IntKind.u64.wrap (a : Int) = (a : Int) := by rw [IntKind.wrap_u64]; omega
theorem wrapM (a : Nat) : IntKind.u64.wrap (a : Int) = ((a % 18446744073709551616 : Nat) : Int) := by rw [IntKind.wrap_u64]; omega
theorem mul64_eq (x y : Nat) (hx : x < 18446744073709551616) (hy : y < 18446744073709551616) : bits_Mul64.f x y = some (hi (x * y), lo (x * y)) := by
  obtain ⟨bd, bt, bw, hhi⟩ := Lib.mul64_hi x y hx hy; have ba := Lib.half_mul_le (a := x / 4294967296) (b := y / 4294967296) (by omega) (by omega); have bb := Lib.half_mul_le (a := x / 4294967296) (b := y % 4294967296) (by omega) (by omega); have bc := Lib.half_mul_le (a := x % 4294967296) (b := y / 4294967296) (by omega) (by omega); (have ba' : x / 4294967296 * (y / 4294967296) < 18446744073709551616 := by omega); (have bb' : x / 4294967296 * (y % 4294967296) < 18446744073709551616 := by omega); (have bc' : x % 4294967296 * (y / 4294967296) < 18446744073709551616 := by omega); (have bh1 : x / 4294967296 * (y / 4294967296) + (x / 4294967296 * (y % 4294967296) + x % 4294967296 * (y % 4294967296) / 4294967296) / 4294967296 < 18446744073709551616 := by omega); (have bh : x / 4294967296 * (y / 4294967296) + (x / 4294967296 * (y % 4294967296) + x % 4294967296 * (y % 4294967296) / 4294967296) / 4294967296 + ((x / 4294967296 * (y % 4294967296) + x % 4294967296 * (y % 4294967296) / 4294967296) % 4294967296 + x % 4294967296 * (y / 4294967296)) / 4294967296 < 18446744073709551616 := by omega); unfold bits_Mul64.f; simp only [maskN x hx, maskN y hy, divN, mulN, addN, wrapN _ bd, wrapN _ bb', wrapN _ bt, maskN _ bt, wrapN _ bc', wrapN _ bw, wrapN _ ba', wrapN _ bh1, wrapN _ bh, wrapM (x * y)]; rw [hhi]; rfl
theorem times_eq {a : Int} (ha : I64 a) (y : Nat) (hy : y < 18446744073709551616) : ratio_times.f a y = some (decide (a < 0), hi (a.natAbs * y), lo (a.natAbs * y)) := by
  unfold ratio_times.f; rw [abs_eq ha, Option.bind_some, mul64_eq _ y (abs_lt ha) hy]; rfl

theorem hl_inj {a b : Nat} : (hi a = hi b ∧ lo a = lo b) ↔ a = b := by unfold hi lo; omega
def cmpN (a b : Nat) : Int := if a < b then -1 else if a = b then 0 else 1
theorem wcompare_ev (s t : Bool) (a b : Nat) : Ev (fun k => ratio_wide_compare.f k s (hi a) (lo a) t (hi b) (lo b)) (cmpN a b) := by
  have k1 : Ev (fun k => ratio_wide_compare.j1 k (decide (a < b)) s (hi a) (lo a) t (hi b) (lo b)) (cmpN a b) := by
    refine ev_some (fun k => ?_); simp only [ratio_wide_compare.j1, decide_eq_true_eq]; unfold cmpN
    by_cases h : a < b
    · rw [if_pos h, if_pos h]
    · rw [if_neg h, if_neg h]
      by_cases h2 : a = b
      · subst h2; rw [if_pos rfl, if_pos rfl, if_pos rfl]
      · rw [if_neg h2]
        by_cases h3 : hi a = hi b
        · rw [if_pos h3, if_neg (fun h4 => h2 (hl_inj.1 ⟨h3, h4⟩))]
        · rw [if_neg h3]
  by_cases h : hi a = hi b
  · refine Ev.congr (fun k => by unfold ratio_wide_compare.f; rw [if_pos h]) ?_
    refine Ev.step (fun k => ?_) k1; simp only [ratio_wide_compare.j0]; rw [if_neg (by decide), if_pos h, show decide (lo a < lo b) = decide (a < b) from by rw [decide_eq_decide]; unfold hi at h; unfold lo; omega]
  · refine Ev.congr (fun k => by unfold ratio_wide_compare.f; rw [if_neg h]) ?_
    refine Ev.step (fun k => ?_) k1; simp only [ratio_wide_compare.j0]; rw [show decide (hi a < hi b) = decide (a < b) from by rw [decide_eq_decide]; unfold hi at h ⊢; omega]
    by_cases h2 : a < b
    · rw [if_pos (by simpa using h2)]
    · rw [if_neg (by simpa using h2), if_neg h, show decide (a < b) = false from decide_eq_false h2]

/-- the sum of two signed magnitudes -/
def tot (x : Bool) (a : Nat) (y : Bool) (b : Nat) : Bool × Nat := if x = y then (x, a + b) else if b ≤ a then (x, a - b) else (y, b - a)
theorem tot_same {x y : Bool} (a b : Nat) (h : x = y) : tot x a y b = (x, a + b) := by unfold tot; rw [if_pos h]
theorem tot_ge {x y : Bool} {a b : Nat} (h : x ≠ y) (hl : b ≤ a) : tot x a y b = (x, a - b) := by unfold tot; rw [if_neg h, if_pos hl]
theorem tot_lt {x y : Bool} {a b : Nat} (h : x ≠ y) (hl : ¬ b ≤ a) : tot x a y b = (y, b - a) := by unfold tot; rw [if_neg h, if_neg hl]
/-- what Compare tells -/
def cmpR (a b c d : Int) : Int := if okR a b ∧ okR c d then (if a * d < c * b then -1 else if a * d = c * b then 0 else 1) else 0
theorem signed (a d : Int) (hd : 0 ≤ d) : a * d = if a < 0 then -((a.natAbs * d.natAbs : Nat) : Int) else ((a.natAbs * d.natAbs : Nat) : Int) := by
  rw [Int.natCast_mul]; (have e : ((d.natAbs : Nat) : Int) = d := by omega); rw [e]
  split
  · rw [show ((a.natAbs : Nat) : Int) = -a from by omega, Int.neg_mul, Int.neg_neg]
  · rw [show ((a.natAbs : Nat) : Int) = a from by omega]
theorem mag_pos {a d : Int} (ha : a ≠ 0) (hd : d ≠ 0) : 0 < a.natAbs * d.natAbs := Nat.mul_pos (by omega) (by omega)
theorem mag_zero {a d : Int} (ha : a = 0) : a.natAbs * d.natAbs = 0 := by subst ha; exact Nat.zero_mul _
theorem ok_small {a b : Int} (h : okR a b) : I64 a ∧ I64 b ∧ 1 ≤ b ∧ a.natAbs ≤ 1152921504606846976 ∧ b.natAbs ≤ 1152921504606846976 := by
  obtain ⟨⟨h1, h2, h3, h4⟩, _⟩ := h; unfold I64; omega
theorem mag_le {a d : Int} (ha : a.natAbs ≤ 1152921504606846976) (hd : d.natAbs ≤ 1152921504606846976) : a.natAbs * d.natAbs ≤ 1329227995784915872903807060280344576 :=
  Nat.le_trans (Nat.mul_le_mul ha hd) (by decide)
theorem wrap_abs {b : Int} (h : 1 ≤ b) (h2 : b.natAbs ≤ 1152921504606846976) : IntKind.u64.wrap b = (b.natAbs : Int) := by rw [wu]; omega

theorem rcompare_ev (a b c d : Int) : Ev (fun k => ratio_Compare.f k a b c d) (cmpR a b c d) := by
  refine Ev.congr (fun k => by unfold ratio_Compare.f; rfl) ?_; refine Ev.bind (rvalid_ev a b) ?_
  by_cases h1 : okR a b
  · refine Ev.congr (fun k => by rw [if_pos (decide_eq_true h1)]) ?_
    refine Ev.bind (rvalid_ev c d) ?_
    by_cases h2 : okR c d
    · obtain ⟨ia, ib, b1, la, lb⟩ := ok_small h1
      obtain ⟨ic, id, d1, lc, ld⟩ := ok_small h2; have sa := signed a d (by omega); have sc := signed c b (by omega); have pa := @mag_pos a d; have pc := @mag_pos c b; have t1 := times_eq ia d.natAbs (abs_lt id); have t2 := times_eq ic b.natAbs (abs_lt ib); (have eR : cmpR a b c d = (if a * d < c * b then -1 else if a * d = c * b then 0 else 1) := by unfold cmpR; rw [if_pos ⟨h1, h2⟩]); rw [eR]; obtain ⟨X, hX⟩ : ∃ X, a * d = X := ⟨_, rfl⟩; obtain ⟨Y, hY⟩ : ∃ Y, c * b = Y := ⟨_, rfl⟩; rw [hX] at sa; rw [hY] at sc; rw [hX, hY]; obtain ⟨P, hP⟩ : ∃ P, a.natAbs * d.natAbs = P := ⟨_, rfl⟩; obtain ⟨Q, hQ⟩ : ∃ Q, c.natAbs * b.natAbs = Q := ⟨_, rfl⟩; rw [hP] at sa pa t1; rw [hQ] at sc pc t2
      have k2 : Ev (fun k => ratio_Compare.j2 k (decide (0 ≤ a) && decide (c < 0)) (decide (a < 0)) (hi P) (lo P) (decide (c < 0)) (hi Q) (lo Q)) (if 0 ≤ a ∧ c < 0 then 1 else if a < 0 then cmpN Q P else cmpN P Q) := by
        by_cases h3 : 0 ≤ a ∧ c < 0
        · rw [if_pos h3]
          refine ev_some (fun k => ?_); simp only [ratio_Compare.j2]; rw [if_pos (by simpa using h3)]
        · rw [if_neg h3]
          by_cases h4 : a < 0
          · rw [if_pos h4]
            refine Ev.step (fun k => ?_) (Ev.bind (f := fun _ t => some t) (wcompare_ev (decide (c < 0)) (decide (a < 0)) Q P) (Ev.now _)); simp only [ratio_Compare.j2]; rw [if_neg (by simpa using h3), if_pos (decide_eq_true h4)]
          · rw [if_neg h4]
            refine Ev.step (fun k => ?_) (Ev.bind (f := fun _ t => some t) (wcompare_ev (decide (a < 0)) (decide (c < 0)) P Q) (Ev.now _)); simp only [ratio_Compare.j2]; rw [if_neg (by simpa using h3), if_neg (by simpa using h4)]
      have k1 : Ev (fun k => ratio_Compare.j1 k (decide (a < 0) && decide (0 ≤ c)) (decide (a < 0)) (hi P) (lo P) (decide (c < 0)) (hi Q) (lo Q)) (if X < Y then -1 else if X = Y then 0 else 1) := by
        by_cases h3 : a < 0 ∧ 0 ≤ c
        · rw [if_pos (by rw [if_pos h3.1] at sa; rw [if_neg (by omega)] at sc; have := pa (by omega) (by omega); omega)]
          refine ev_some (fun k => ?_); simp only [ratio_Compare.j1]; rw [if_pos (by simpa using h3)]
        · have e : (if X < Y then (-1 : Int) else if X = Y then 0 else 1) = (if 0 ≤ a ∧ c < 0 then 1 else if a < 0 then cmpN Q P else cmpN P Q) := by
            unfold cmpN; (have pc2 : c < 0 → 0 < Q := fun h => pc (by omega) (by omega)); clear pa pc t1 t2 hP hQ hX hY eR k2; repeat' (first | omega | split at sa | split at sc | split)
          rw [e]; refine Ev.step (fun k => ?_) k2; simp only [ratio_Compare.j1]; rw [if_neg (by simpa using h3)]
          by_cases h5 : c < 0
          · rw [if_pos (decide_eq_true h5), show (decide (0 ≤ a) && decide (c < 0)) = !decide (a < 0) from by rw [decide_eq_true h5, Bool.and_true, ← decide_not]; rw [decide_eq_decide]; omega]
          · rw [if_neg (by simpa using h5), show (decide (0 ≤ a) && decide (c < 0)) = false from by rw [decide_eq_false h5, Bool.and_false]]
      refine Ev.step (fun k => ?_) k1; simp only [ratio_Compare.j0]; rw [if_neg (by simpa using h2), wrap_abs d1 ld, wrap_abs b1 lb, t1, t2, Option.bind_some, Option.bind_some]
      by_cases h6 : a < 0
      · rw [if_pos (decide_eq_true h6), show (decide (a < 0) && decide (0 ≤ c)) = !decide (c < 0) from by rw [decide_eq_true h6, Bool.true_and, ← decide_not]; rw [decide_eq_decide]; omega]
      · rw [if_neg (by simpa using h6), show (decide (a < 0) && decide (0 ≤ c)) = false from by rw [decide_eq_false h6, Bool.false_and]]
    · have e : cmpR a b c d = 0 := by unfold cmpR; rw [if_neg (fun h => h2 h.2)]
      rw [e]; refine ev_some (fun k => ?_); simp only [ratio_Compare.j0]; rw [if_pos (by simpa using h2)]
  · have e : cmpR a b c d = 0 := by unfold cmpR; rw [if_neg (fun h => h1 h.1)]
    rw [e]; refine Ev.congr (fun k => by rw [if_neg (by simpa using h1)]) ?_; refine ev_some (fun k => ?_); simp only [ratio_Compare.j0]; rw [if_pos trivial]

theorem cmpR_cases (a b c d : Int) : cmpR a b c d = -1 ∨ cmpR a b c d = 0 ∨ cmpR a b c d = 1 := by
  unfold cmpR; repeat' (first | omega | split)
end Go.Proofs.Ytcbohbeipgcfhaa.Mth
