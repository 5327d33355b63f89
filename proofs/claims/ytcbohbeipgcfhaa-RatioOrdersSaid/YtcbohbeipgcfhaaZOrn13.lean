/- Texts of this claim laid together: MathE, MathF, MathG, Gf68, Gf55, Gf26, MathT. -/
import Derived.Test.YtcbohbeipgcfhaaZOrn12
import Derived.Test.YtcbohbeipgcfhaaZOrn4
import Derived.Test.YtcbohbeipgcfhaaZOrn6
import Derived.Test.YtcbohbeipgcfhaaG0
import Derived.Test.YtcbohbeipgcfhaaZOrn2
import Derived.Test.YtcbohbeipgcfhaaZOrn10
import Derived.Lib.Mul64
/- Products, sums and comparisons of signed numbers of 128 bits; Compare of the program tells what cmpR tells, for all numbers. -/
namespace Go.Proofs.Ytcbohbeipgcfhaa.Mth
open Go.RowKit Go.Proofs.Ytcbohbeipgcfhaa.G Go.Proofs.Ytcbohbeipgcfhaa.Given Go.Proofs.YtcbohbeipgcfhaaW.PrintWords Go.Proofs.YtcbohbeipgcfhaaW.PrintLast Go.Proofs.YtcbohbeipgcfhaaW.PrintMore
set_option linter.unusedVariables false

theorem divN (a : Nat) : (a : Int) / 4294967296 = ((a / 4294967296 : Nat) : Int) := by omega
theorem mulN (a b : Nat) : (a : Int) * (b : Int) = ((a * b : Nat) : Int) := (Int.natCast_mul a b).symm
theorem addN (a b : Nat) : (a : Int) + (b : Int) = ((a + b : Nat) : Int) := (Int.natCast_add a b).symm
theorem wrapN (a : Nat) (ha : a < 18446744073709551616) : IntKind.u64.wrap (a : Int) = (a : Int) := by rw [IntKind.wrap_u64]; omega
theorem wrapM (a : Nat) : IntKind.u64.wrap (a : Int) = ((a % 18446744073709551616 : Nat) : Int) := by rw [IntKind.wrap_u64]; omega
theorem mul64_eq (x y : Nat) (hx : x < 18446744073709551616) (hy : y < 18446744073709551616) : bits_Mul64.f x y = some (hi (x * y), lo (x * y)) := by
  obtain ⟨bd, bt, bw, hhi⟩ := Lib.mul64_hi x y hx hy
  have ba := Lib.half_mul_le (a := x / 4294967296) (b := y / 4294967296) (by omega) (by omega)
  have bb := Lib.half_mul_le (a := x / 4294967296) (b := y % 4294967296) (by omega) (by omega)
  have bc := Lib.half_mul_le (a := x % 4294967296) (b := y / 4294967296) (by omega) (by omega)
  have ba' : x / 4294967296 * (y / 4294967296) < 18446744073709551616 := by omega
  have bb' : x / 4294967296 * (y % 4294967296) < 18446744073709551616 := by omega
  have bc' : x % 4294967296 * (y / 4294967296) < 18446744073709551616 := by omega
  have bh1 : x / 4294967296 * (y / 4294967296) + (x / 4294967296 * (y % 4294967296) + x % 4294967296 * (y % 4294967296) / 4294967296) / 4294967296 < 18446744073709551616 := by omega
  have bh : x / 4294967296 * (y / 4294967296) + (x / 4294967296 * (y % 4294967296) + x % 4294967296 * (y % 4294967296) / 4294967296) / 4294967296 + ((x / 4294967296 * (y % 4294967296) + x % 4294967296 * (y % 4294967296) / 4294967296) % 4294967296 + x % 4294967296 * (y / 4294967296)) / 4294967296 < 18446744073709551616 := by omega
  unfold bits_Mul64.f
  simp only [maskN x hx, maskN y hy, divN, mulN, addN, wrapN _ bd, wrapN _ bb', wrapN _ bt, maskN _ bt, wrapN _ bc', wrapN _ bw, wrapN _ ba', wrapN _ bh1, wrapN _ bh, wrapM (x * y)]
  rw [hhi]
  rfl
theorem times_eq {a : Int} (ha : I64 a) (y : Nat) (hy : y < 18446744073709551616) : ratio_times.f a y = some (decide (a < 0), hi (a.natAbs * y), lo (a.natAbs * y)) := by
  unfold ratio_times.f
  rw [abs_eq ha, Option.bind_some, mul64_eq _ y (abs_lt ha) hy]; rfl

theorem hl_inj {a b : Nat} : (hi a = hi b ∧ lo a = lo b) ↔ a = b := by unfold hi lo; omega
def cmpN (a b : Nat) : Int := if a < b then -1 else if a = b then 0 else 1
theorem wcompare_ev (s t : Bool) (a b : Nat) : Ev (fun k => ratio_wide_compare.f k s (hi a) (lo a) t (hi b) (lo b)) (cmpN a b) := by
  have k1 : Ev (fun k => ratio_wide_compare.j1 k (decide (a < b)) s (hi a) (lo a) t (hi b) (lo b)) (cmpN a b) := by
    refine ev_some (fun k => ?_)
    simp only [ratio_wide_compare.j1, decide_eq_true_eq]
    unfold cmpN
    by_cases h : a < b
    · rw [if_pos h, if_pos h]
    · rw [if_neg h, if_neg h]
      by_cases h2 : a = b
      · subst h2; rw [if_pos rfl, if_pos rfl, if_pos rfl]
      · rw [if_neg h2]
        by_cases h3 : hi a = hi b
        · rw [if_pos h3, if_neg (fun h4 => h2 (hl_inj.1 ⟨h3, h4⟩))]
        · rw [if_neg h3]
  by_cases h : hi a = hi b
  · refine Ev.congr (fun k => by unfold ratio_wide_compare.f; rw [if_pos h]) ?_
    refine Ev.step (fun k => ?_) k1
    simp only [ratio_wide_compare.j0]
    rw [if_neg (by decide), if_pos h, show decide (lo a < lo b) = decide (a < b) from by rw [decide_eq_decide]; unfold hi at h; unfold lo; omega]
  · refine Ev.congr (fun k => by unfold ratio_wide_compare.f; rw [if_neg h]) ?_
    refine Ev.step (fun k => ?_) k1
    simp only [ratio_wide_compare.j0]
    rw [show decide (hi a < hi b) = decide (a < b) from by rw [decide_eq_decide]; unfold hi at h ⊢; omega]
    by_cases h2 : a < b
    · rw [if_pos (by simpa using h2)]
    · rw [if_neg (by simpa using h2), if_neg h, show decide (a < b) = false from decide_eq_false h2]

/-- the sum of two signed magnitudes -/
def tot (x : Bool) (a : Nat) (y : Bool) (b : Nat) : Bool × Nat := if x = y then (x, a + b) else if b ≤ a then (x, a - b) else (y, b - a)
theorem tot_same {x y : Bool} (a b : Nat) (h : x = y) : tot x a y b = (x, a + b) := by unfold tot; rw [if_pos h]
theorem tot_ge {x y : Bool} {a b : Nat} (h : x ≠ y) (hl : b ≤ a) : tot x a y b = (x, a - b) := by unfold tot; rw [if_neg h, if_pos hl]
theorem tot_lt {x y : Bool} {a b : Nat} (h : x ≠ y) (hl : ¬ b ≤ a) : tot x a y b = (y, b - a) := by unfold tot; rw [if_neg h, if_neg hl]
/-- what Compare tells -/
def cmpR (a b c d : Int) : Int := if okR a b ∧ okR c d then (if a * d < c * b then -1 else if a * d = c * b then 0 else 1) else 0
theorem signed (a d : Int) (hd : 0 ≤ d) : a * d = if a < 0 then -((a.natAbs * d.natAbs : Nat) : Int) else ((a.natAbs * d.natAbs : Nat) : Int) := by
  rw [Int.natCast_mul]
  have e : ((d.natAbs : Nat) : Int) = d := by omega
  rw [e]
  split
  · rw [show ((a.natAbs : Nat) : Int) = -a from by omega, Int.neg_mul, Int.neg_neg]
  · rw [show ((a.natAbs : Nat) : Int) = a from by omega]
theorem mag_pos {a d : Int} (ha : a ≠ 0) (hd : d ≠ 0) : 0 < a.natAbs * d.natAbs := Nat.mul_pos (by omega) (by omega)
theorem mag_zero {a d : Int} (ha : a = 0) : a.natAbs * d.natAbs = 0 := by subst ha; exact Nat.zero_mul _
theorem ok_small {a b : Int} (h : okR a b) : I64 a ∧ I64 b ∧ 1 ≤ b ∧ a.natAbs ≤ 1152921504606846976 ∧ b.natAbs ≤ 1152921504606846976 := by
  obtain ⟨⟨h1, h2, h3, h4⟩, _⟩ := h
  unfold I64; omega
theorem mag_le {a d : Int} (ha : a.natAbs ≤ 1152921504606846976) (hd : d.natAbs ≤ 1152921504606846976) : a.natAbs * d.natAbs ≤ 1329227995784915872903807060280344576 :=
  Nat.le_trans (Nat.mul_le_mul ha hd) (by decide)
theorem wrap_abs {b : Int} (h : 1 ≤ b) (h2 : b.natAbs ≤ 1152921504606846976) : IntKind.u64.wrap b = (b.natAbs : Int) := by rw [wu]; omega

theorem rcompare_ev (a b c d : Int) : Ev (fun k => ratio_Compare.f k a b c d) (cmpR a b c d) := by
  refine Ev.congr (fun k => by unfold ratio_Compare.f; rfl) ?_
  refine Ev.bind (rvalid_ev a b) ?_
  by_cases h1 : okR a b
  · refine Ev.congr (fun k => by rw [if_pos (decide_eq_true h1)]) ?_
    refine Ev.bind (rvalid_ev c d) ?_
    by_cases h2 : okR c d
    · obtain ⟨ia, ib, b1, la, lb⟩ := ok_small h1
      obtain ⟨ic, id, d1, lc, ld⟩ := ok_small h2
      have sa := signed a d (by omega)
      have sc := signed c b (by omega)
      have pa := @mag_pos a d
      have pc := @mag_pos c b
      have t1 := times_eq ia d.natAbs (abs_lt id)
      have t2 := times_eq ic b.natAbs (abs_lt ib)
      have eR : cmpR a b c d = (if a * d < c * b then -1 else if a * d = c * b then 0 else 1) := by unfold cmpR; rw [if_pos ⟨h1, h2⟩]
      rw [eR]
      obtain ⟨X, hX⟩ : ∃ X, a * d = X := ⟨_, rfl⟩
      obtain ⟨Y, hY⟩ : ∃ Y, c * b = Y := ⟨_, rfl⟩
      rw [hX] at sa
      rw [hY] at sc
      rw [hX, hY]
      obtain ⟨P, hP⟩ : ∃ P, a.natAbs * d.natAbs = P := ⟨_, rfl⟩
      obtain ⟨Q, hQ⟩ : ∃ Q, c.natAbs * b.natAbs = Q := ⟨_, rfl⟩
      rw [hP] at sa pa t1
      rw [hQ] at sc pc t2
      have k2 : Ev (fun k => ratio_Compare.j2 k (decide (0 ≤ a) && decide (c < 0)) (decide (a < 0)) (hi P) (lo P) (decide (c < 0)) (hi Q) (lo Q)) (if 0 ≤ a ∧ c < 0 then 1 else if a < 0 then cmpN Q P else cmpN P Q) := by
        by_cases h3 : 0 ≤ a ∧ c < 0
        · rw [if_pos h3]
          refine ev_some (fun k => ?_)
          simp only [ratio_Compare.j2]
          rw [if_pos (by simpa using h3)]
        · rw [if_neg h3]
          by_cases h4 : a < 0
          · rw [if_pos h4]
            refine Ev.step (fun k => ?_) (Ev.bind (f := fun _ t => some t) (wcompare_ev (decide (c < 0)) (decide (a < 0)) Q P) (Ev.now _))
            simp only [ratio_Compare.j2]
            rw [if_neg (by simpa using h3), if_pos (decide_eq_true h4)]
          · rw [if_neg h4]
            refine Ev.step (fun k => ?_) (Ev.bind (f := fun _ t => some t) (wcompare_ev (decide (a < 0)) (decide (c < 0)) P Q) (Ev.now _))
            simp only [ratio_Compare.j2]
            rw [if_neg (by simpa using h3), if_neg (by simpa using h4)]
      have k1 : Ev (fun k => ratio_Compare.j1 k (decide (a < 0) && decide (0 ≤ c)) (decide (a < 0)) (hi P) (lo P) (decide (c < 0)) (hi Q) (lo Q)) (if X < Y then -1 else if X = Y then 0 else 1) := by
        by_cases h3 : a < 0 ∧ 0 ≤ c
        · rw [if_pos (by rw [if_pos h3.1] at sa; rw [if_neg (by omega)] at sc; have := pa (by omega) (by omega); omega)]
          refine ev_some (fun k => ?_)
          simp only [ratio_Compare.j1]
          rw [if_pos (by simpa using h3)]
        · have e : (if X < Y then (-1 : Int) else if X = Y then 0 else 1) = (if 0 ≤ a ∧ c < 0 then 1 else if a < 0 then cmpN Q P else cmpN P Q) := by
            unfold cmpN
            have pc2 : c < 0 → 0 < Q := fun h => pc (by omega) (by omega)
            clear pa pc t1 t2 hP hQ hX hY eR k2
            repeat' (first | omega | split at sa | split at sc | split)
          rw [e]
          refine Ev.step (fun k => ?_) k2
          simp only [ratio_Compare.j1]
          rw [if_neg (by simpa using h3)]
          by_cases h5 : c < 0
          · rw [if_pos (decide_eq_true h5), show (decide (0 ≤ a) && decide (c < 0)) = !decide (a < 0) from by rw [decide_eq_true h5, Bool.and_true, ← decide_not]; rw [decide_eq_decide]; omega]
          · rw [if_neg (by simpa using h5), show (decide (0 ≤ a) && decide (c < 0)) = false from by rw [decide_eq_false h5, Bool.and_false]]
      refine Ev.step (fun k => ?_) k1
      simp only [ratio_Compare.j0]
      rw [if_neg (by simpa using h2), wrap_abs d1 ld, wrap_abs b1 lb, t1, t2, Option.bind_some, Option.bind_some]
      by_cases h6 : a < 0
      · rw [if_pos (decide_eq_true h6), show (decide (a < 0) && decide (0 ≤ c)) = !decide (c < 0) from by rw [decide_eq_true h6, Bool.true_and, ← decide_not]; rw [decide_eq_decide]; omega]
      · rw [if_neg (by simpa using h6), show (decide (a < 0) && decide (0 ≤ c)) = false from by rw [decide_eq_false h6, Bool.false_and]]
    · have e : cmpR a b c d = 0 := by unfold cmpR; rw [if_neg (fun h => h2 h.2)]
      rw [e]
      refine ev_some (fun k => ?_)
      simp only [ratio_Compare.j0]
      rw [if_pos (by simpa using h2)]
  · have e : cmpR a b c d = 0 := by unfold cmpR; rw [if_neg (fun h => h1 h.1)]
    rw [e]
    refine Ev.congr (fun k => by rw [if_neg (by simpa using h1)]) ?_
    refine ev_some (fun k => ?_)
    simp only [ratio_Compare.j0]
    rw [if_pos trivial]

theorem cmpR_cases (a b c d : Int) : cmpR a b c d = -1 ∨ cmpR a b c d = 0 ∨ cmpR a b c d = 1 := by
  unfold cmpR; repeat' (first | omega | split)
end Go.Proofs.Ytcbohbeipgcfhaa.Mth

/- What reducing and adding signed magnitudes keep; the sum of the program; what Add tells. -/
namespace Go.Proofs.Ytcbohbeipgcfhaa.Mth
open Go.RowKit Go.Proofs.Ytcbohbeipgcfhaa.G Go.Proofs.Ytcbohbeipgcfhaa.Given Go.Proofs.YtcbohbeipgcfhaaW.PrintWords Go.Proofs.YtcbohbeipgcfhaaW.PrintLast Go.Proofs.YtcbohbeipgcfhaaW.PrintMore
set_option linter.unusedVariables false

theorem red_scale (s : Bool) (k n d : Nat) (hk : 0 < k) : red s (k * n) (k * d) = red s n d := by
  unfold red
  rw [Nat.gcd_mul_left, Nat.mul_div_mul_left _ _ hk, Nat.mul_div_mul_left _ _ hk]
theorem red_zero (s : Bool) (d : Nat) (hd : 0 < d) : red s 0 d = (0, 1, 0) := by
  unfold red
  rw [Nat.gcd_zero_left, Nat.zero_div, Nat.div_self hd]
  cases s <;> rfl
theorem red_coprime (s : Bool) (n d : Nat) (h : Nat.gcd n d = 1) (hd : 1152921504606846976 < d) : red s n d = (0, 0, 6) := by
  unfold red
  rw [h, Nat.div_one, Nat.div_one, if_neg (by omega)]
theorem tot_scale (k : Nat) (hk : 0 < k) (x : Bool) (a : Nat) (y : Bool) (b : Nat) : tot x (k * a) y (k * b) = ((tot x a y b).1, k * (tot x a y b).2) := by
  by_cases h : x = y
  · rw [tot_same _ _ h, tot_same _ _ h, Nat.mul_add]
  · by_cases hl : b ≤ a
    · rw [tot_ge h hl, tot_ge h (Nat.mul_le_mul_left k hl), Nat.mul_sub]
    · rw [tot_lt h hl, tot_lt h (fun c => hl (Nat.le_of_mul_le_mul_left c hk)), Nat.mul_sub]
theorem tot_le (x : Bool) (a : Nat) (y : Bool) (b : Nat) : (tot x a y b).2 ≤ a + b := by
  by_cases h : x = y
  · rw [tot_same _ _ h]; exact Nat.le_refl _
  · by_cases hl : b ≤ a
    · rw [tot_ge h hl]; show a - b ≤ a + b; omega
    · rw [tot_lt h hl]; show b - a ≤ a + b; omega
/-- what divides the sum and one part divides the other part -/
theorem tot_dvd_left {k : Nat} {x : Bool} {a : Nat} {y : Bool} {b : Nat} (ht : k ∣ (tot x a y b).2) (hb : k ∣ b) : k ∣ a := by
  by_cases h : x = y
  · rw [tot_same _ _ h] at ht; exact (Nat.dvd_add_left hb).1 ht
  · by_cases hl : b ≤ a
    · rw [tot_ge h hl] at ht
      have ht' : k ∣ a - b := ht
      have := Nat.dvd_add ht' hb
      rwa [Nat.sub_add_cancel hl] at this
    · rw [tot_lt h hl] at ht
      have ht' : k ∣ b - a := ht
      have := Nat.dvd_sub hb ht'
      rwa [show b - (b - a) = a from by omega] at this
theorem tot_dvd_right {k : Nat} {x : Bool} {a : Nat} {y : Bool} {b : Nat} (ht : k ∣ (tot x a y b).2) (ha : k ∣ a) : k ∣ b := by
  by_cases h : x = y
  · rw [tot_same _ _ h] at ht; exact (Nat.dvd_add_right ha).1 ht
  · by_cases hl : b ≤ a
    · rw [tot_ge h hl] at ht
      have ht' : k ∣ a - b := ht
      have := Nat.dvd_sub ha ht'
      rwa [show a - (a - b) = b from by omega] at this
    · rw [tot_lt h hl] at ht
      have ht' : k ∣ b - a := ht
      have := Nat.dvd_add ht' ha
      rwa [Nat.sub_add_cancel (by omega)] at this
theorem coprime_part {A q p : Nat} (h1 : Nat.gcd p A = 1) (h2 : Nat.gcd p q = 1) {k : Nat} (hk : k ∣ p) (hd : k ∣ A * q) : k = 1 := by
  have h3 : Nat.gcd k A = 1 := Nat.Coprime.coprime_dvd_left hk h1
  have h4 : k ∣ q := Nat.Coprime.dvd_of_dvd_mul_left h3 hd
  have := Nat.dvd_gcd hk h4
  rw [h2] at this
  exact Nat.dvd_one.1 this

theorem add64_eq (x y z : Nat) (hz : z ≤ 1) : bits_Add64.f x y z = some ((((x + y + z) % 18446744073709551616 : Nat) : Int), (((x + y + z) / 18446744073709551616 : Nat) : Int)) := by
  unfold bits_Add64.f
  rw [if_pos (by omega)]
  rfl
theorem wplus_ev (x : Bool) (a : Nat) (y : Bool) (b : Nat) (h : a + b < 340282366920938463463374607431768211456) :
    Ev (fun k => ratio_wide_plus.f k x (hi a) (lo a) y (hi b) (lo b)) ((tot x a y b).1, hi (tot x a y b).2, lo (tot x a y b).2) := by
  have hm (a b : Nat) (hab : b ≤ a) (ha : a < 340282366920938463463374607431768211456) (z : Bool) : ((bits_Sub64.f (lo a) (lo b) 0).bind fun bt545 => ((bits_Sub64.f (hi a) (hi b) bt545.2).bind fun bt547 => some (z, bt547.1, bt545.1))) = some (z, hi (a - b), lo (a - b)) := by
    have := minus_eq a b ha (by omega)
    rw [show (a + 340282366920938463463374607431768211456 - b) % 340282366920938463463374607431768211456 = a - b from by omega] at this
    unfold awardingbodyref01_Minus.f at this
    cases e1 : bits_Sub64.f (lo a) (lo b) 0 with
    | none => rw [e1] at this; simp at this
    | some v =>
      rw [e1, Option.bind_some] at this
      rw [Option.bind_some]
      cases e2 : bits_Sub64.f (hi a) (hi b) v.2 with
      | none => rw [e2] at this; simp at this
      | some u =>
        rw [e2, Option.bind_some] at this
        rw [Option.bind_some]
        simp only [Option.some.injEq, Prod.mk.injEq] at this
        rw [this.1, this.2]
  by_cases hxy : x = y
  · rw [tot_same a b hxy]
    refine Ev.congr (fun k => ?_) (Ev.now _)
    have := plus_eq a b (by omega) (by omega)
    rw [Nat.mod_eq_of_lt h] at this
    unfold awardingbodyref01_Plus.f at this
    unfold ratio_wide_plus.f
    rw [if_pos (by simpa using hxy)]
    cases e1 : bits_Add64.f (lo a) (lo b) 0 with
    | none => rw [e1] at this; simp at this
    | some v =>
      rw [e1, Option.bind_some] at this
      rw [Option.bind_some]
      cases e2 : bits_Add64.f (hi a) (hi b) v.2 with
      | none => rw [e2] at this; simp at this
      | some u =>
        rw [e2, Option.bind_some] at this
        rw [Option.bind_some]
        simp only [Option.some.injEq, Prod.mk.injEq] at this
        rw [this.1, this.2]
  · refine Ev.congr (fun k => by unfold ratio_wide_plus.f; rw [if_neg (by simpa using hxy)]) ?_
    refine Ev.bind (wcompare_ev x y a b) ?_
    refine Ev.congr (fun k => ?_) (Ev.now _)
    unfold cmpN
    by_cases hl : b ≤ a
    · rw [tot_ge hxy hl, if_neg (by repeat' (first | omega | split)), hm a b hl (by omega)]
    · rw [tot_lt hxy hl, if_pos (by rw [if_pos (by omega)]; omega), hm b a (by omega) (by omega)]

/-- what Add tells -/
def addR (a b c d : Int) : Int × Int × Int :=
  if okR a b ∧ okR c d then red (tot (decide (a < 0)) (a.natAbs * d.natAbs) (decide (c < 0)) (c.natAbs * b.natAbs)).1 (tot (decide (a < 0)) (a.natAbs * d.natAbs) (decide (c < 0)) (c.natAbs * b.natAbs)).2 (b.natAbs * d.natAbs) else (0, 0, 1)

/-- the heart: with the common divisor of the denominators taken out, only a divisor of it cancels -/
theorem add_core (s : Bool) (g p q t c : Nat) (hg : 0 < g) (hp : 0 < p) (hq : 0 < q) (hc : c = Nat.gcd g t) (h1 : Nat.gcd t p = 1) (h2 : Nat.gcd t q = 1) :
    red s (g * t) (g * p * (g * q)) = red s (t / c) (g / c * p * q) ∧ Nat.gcd (t / c) (g / c * p * q) = 1 := by
  have hc0 : 0 < c := by rw [hc]; exact Nat.gcd_pos_of_pos_left _ hg
  have ct : c ∣ t := by rw [hc]; exact Nat.gcd_dvd_right _ _
  have cg : c ∣ g := by rw [hc]; exact Nat.gcd_dvd_left _ _
  constructor
  · rw [show g * p * (g * q) = g * (g * p * q) from by rw [Nat.mul_left_comm (g * p) g q], red_scale s g _ _ hg]
    obtain ⟨u, hu⟩ := ct
    obtain ⟨v, hv⟩ := cg
    rw [hu, hv, Nat.mul_div_cancel_left u hc0, Nat.mul_div_cancel_left v hc0, show c * v * p * q = c * (v * p * q) from by simp only [Nat.mul_assoc], red_scale s c _ _ hc0]
  · have e1 : Nat.Coprime (t / c) (g / c) := by
      rw [hc, Nat.gcd_comm g t]
      exact Nat.coprime_div_gcd_div_gcd (by rw [Nat.gcd_comm, ← hc]; exact hc0)
    have e2 : Nat.Coprime (t / c) p := Nat.Coprime.coprime_dvd_left (Nat.div_dvd_of_dvd ct) h1
    have e3 : Nat.Coprime (t / c) q := Nat.Coprime.coprime_dvd_left (Nat.div_dvd_of_dvd ct) h2
    exact Nat.Coprime.mul_right (Nat.Coprime.mul_right e1 e2) e3
end Go.Proofs.Ytcbohbeipgcfhaa.Mth

/- Add of the program tells what addR tells, for all numbers. -/
namespace Go.Proofs.Ytcbohbeipgcfhaa.Mth
open Go.RowKit Go.Proofs.Ytcbohbeipgcfhaa.G Go.Proofs.Ytcbohbeipgcfhaa.Given Go.Proofs.YtcbohbeipgcfhaaW.PrintWords Go.Proofs.YtcbohbeipgcfhaaW.PrintLast Go.Proofs.YtcbohbeipgcfhaaW.PrintMore
set_option linter.unusedVariables false

theorem j1_ev (s : Bool) (g p q t : Nat) (hg : 0 < g) (hp : 0 < p) (hq : 0 < q) (g2 : g ≤ 1152921504606846976) (p2 : p ≤ 1152921504606846976) (q2 : q ≤ 1152921504606846976) (ht : t < 340282366920938463463374607431768211456) (h1 : Nat.gcd t p = 1) (h2 : Nat.gcd t q = 1) :
    Ev (fun k => ratio_Add.j1 k g p q (decide (t = 0)) s (hi t) (lo t)) (red s (g * t) (g * p * (g * q))) := by
  by_cases h0 : t = 0
  · subst h0
    rw [Nat.mul_zero, red_zero s _ (Nat.mul_pos (Nat.mul_pos hg hp) (Nat.mul_pos hg hq))]
    refine ev_some (fun k => ?_)
    simp only [ratio_Add.j1]
    rw [if_pos (by decide)]
  · obtain ⟨c, hc⟩ : ∃ c, c = Nat.gcd g t := ⟨_, rfl⟩
    have hc0 : 0 < c := by rw [hc]; exact Nat.gcd_pos_of_pos_left _ hg
    have hcg : c ≤ g := by rw [hc]; exact Nat.gcd_le_left _ hg
    obtain ⟨core, cop⟩ := add_core s g p q t c hg hp hq hc h1 h2
    rw [core]
    clear core
    have hv0 : 0 < g / c := Nat.div_pos hcg hc0
    have hv : g / c ≤ g := Nat.div_le_self _ _
    have hrem : (t / 18446744073709551616) * 18446744073709551616 + t % 18446744073709551616 = t := by omega
    have r1 := rem64_ev (t / 18446744073709551616) (t % 18446744073709551616) g (by omega) (Nat.mod_lt _ (by decide)) hg
    rw [hrem] at r1
    have r2 := gcd_ev (t % g) g
    rw [show Nat.gcd g (t % g) = c from by rw [hc, Nat.gcd_rec g t, Nat.gcd_comm]] at r2
    refine Ev.step (f := fun k => (bits_Rem64.f k (hi t) (lo t) g).bind fun t690 => (ratio_gcd.f k g t690).bind fun t691 => if t691 = 0 then none else (bits_Mul64.f (IntKind.u64.wrap (Int.tdiv (g : Int) t691)) p).bind fun bt692 => if bt692.1 = 0 then ((bits_Mul64.f bt692.2 q).bind fun bt694 => (if bt694.1 = 0 then ((ratio_wide_over.f k s (hi t) (lo t) t691).bind fun bt696 => ((ratio_lowest.f k bt696.1 bt696.2.1 bt696.2.2 bt694.2).bind fun bt699 => (some (bt699.1, bt699.2.1, bt699.2.2)))) else (some (0, 0, 6)))) else (some (0, 0, 6))) (fun k => ?_) ?_
    · simp only [ratio_Add.j1]
      rw [if_neg (by simpa using h0)]
    refine Ev.bind r1 ?_
    refine Ev.bind r2 ?_
    have e5 : IntKind.u64.wrap (Int.tdiv (g : Int) (c : Int)) = ((g / c : Nat) : Int) := by rw [show Int.tdiv (g : Int) (c : Int) = ((g / c : Nat) : Int) from rfl, wrapN _ (by omega)]
    have mv := mul64_eq (g / c) p (by omega) (by omega)
    obtain ⟨v, hve⟩ : ∃ v, g / c = v := ⟨_, rfl⟩
    rw [hve] at e5 mv hv hv0 cop ⊢
    refine Ev.congr (fun k => by rw [if_neg (show ¬ ((c : Nat) : Int) = 0 by omega), e5, mv, Option.bind_some]) ?_
    have vp : 0 < v * p := Nat.mul_pos hv0 hp
    have big : v * p ≤ v * p * q := Nat.le_mul_of_pos_right _ hq
    obtain ⟨x, hx⟩ : ∃ x, v * p = x := ⟨_, rfl⟩
    rw [hx] at vp big cop ⊢
    by_cases hh : x < 18446744073709551616
    · have mx := mul64_eq x q hh (by omega)
      rw [hi_small hh, lo_small hh]
      refine Ev.congr (fun k => by rw [if_pos rfl, mx, Option.bind_some]) ?_
      have xq : 0 < x * q := Nat.mul_pos vp hq
      obtain ⟨y, hy⟩ : ∃ y, x * q = y := ⟨_, rfl⟩
      rw [hy] at big cop xq ⊢
      by_cases hy2 : y < 18446744073709551616
      · rw [hi_small hy2, lo_small hy2]
        refine Ev.congr (fun k => by rw [if_pos rfl]) ?_
        refine Ev.bind (over_ev s t c ht (by omega) hc0) ?_
        have hle := Nat.div_le_self t c
        exact Ev.bind (f := fun _ (t : Int × Int × Int) => some (t.1, t.2.1, t.2.2)) (lowest_ev s (t / c) y (by omega) hy2 xq) (Ev.now _)
      · rw [red_coprime s _ _ cop (by omega)]
        refine Ev.congr (fun k => by rw [if_neg (show ¬ hi y = 0 by unfold hi; omega)]) (Ev.now _)
    · rw [red_coprime s _ _ cop (by omega)]
      refine Ev.congr (fun k => by rw [if_neg (show ¬ hi x = 0 by unfold hi; omega)]) (Ev.now _)

theorem radd_ev (a b c d : Int) : Ev (fun k => ratio_Add.f k a b c d) (addR a b c d) := by
  refine Ev.congr (fun k => by unfold ratio_Add.f; rfl) ?_
  refine Ev.bind (rvalid_ev a b) ?_
  by_cases h1 : okR a b
  · refine Ev.congr (fun k => by rw [if_pos (decide_eq_true h1)]) ?_
    refine Ev.bind (rvalid_ev c d) ?_
    by_cases h2 : okR c d
    · obtain ⟨ia, ib, b1, la, lb⟩ := ok_small h1
      obtain ⟨ic, id, d1, lc, ld⟩ := ok_small h2
      have eR : addR a b c d = red (tot (decide (a < 0)) (a.natAbs * d.natAbs) (decide (c < 0)) (c.natAbs * b.natAbs)).1 (tot (decide (a < 0)) (a.natAbs * d.natAbs) (decide (c < 0)) (c.natAbs * b.natAbs)).2 (b.natAbs * d.natAbs) := by unfold addR; rw [if_pos ⟨h1, h2⟩]
      rw [eR]
      clear eR
      have wb := wrap_abs b1 lb
      have wd := wrap_abs d1 ld
      have cab := h1.2
      have ccd := h2.2
      have hgb := Nat.gcd_dvd_left b.natAbs d.natAbs
      have hgd := Nat.gcd_dvd_right b.natAbs d.natAbs
      have hg0 : 0 < Nat.gcd b.natAbs d.natAbs := Nat.gcd_pos_of_pos_left _ (by omega)
      have cpq : Nat.gcd (b.natAbs / Nat.gcd b.natAbs d.natAbs) (d.natAbs / Nat.gcd b.natAbs d.natAbs) = 1 := Nat.coprime_div_gcd_div_gcd hg0
      have r0 := gcd_ev d.natAbs b.natAbs
      obtain ⟨g, hg⟩ : ∃ g, Nat.gcd b.natAbs d.natAbs = g := ⟨_, rfl⟩
      rw [hg] at hgb hgd hg0 cpq r0
      have hpb : b.natAbs / g ∣ b.natAbs := Nat.div_dvd_of_dvd hgb
      have hqd : d.natAbs / g ∣ d.natAbs := Nat.div_dvd_of_dvd hgd
      have hgle : g ≤ b.natAbs := Nat.le_of_dvd (by omega) hgb
      have hgle2 : g ≤ d.natAbs := Nat.le_of_dvd (by omega) hgd
      have hp0 : 0 < b.natAbs / g := Nat.div_pos hgle hg0
      have hq0 : 0 < d.natAbs / g := Nat.div_pos hgle2 hg0
      have hple : b.natAbs / g ≤ b.natAbs := Nat.div_le_self _ _
      have hqle : d.natAbs / g ≤ d.natAbs := Nat.div_le_self _ _
      have eb : g * (b.natAbs / g) = b.natAbs := Nat.mul_div_cancel' hgb
      have ed : g * (d.natAbs / g) = d.natAbs := Nat.mul_div_cancel' hgd
      have w1 : IntKind.u64.wrap (Int.tdiv (b.natAbs : Int) (g : Int)) = ((b.natAbs / g : Nat) : Int) := by rw [show Int.tdiv (b.natAbs : Int) (g : Int) = ((b.natAbs / g : Nat) : Int) from rfl, wrapN _ (by omega)]
      have w2 : IntKind.u64.wrap (Int.tdiv (d.natAbs : Int) (g : Int)) = ((d.natAbs / g : Nat) : Int) := by rw [show Int.tdiv (d.natAbs : Int) (g : Int) = ((d.natAbs / g : Nat) : Int) from rfl, wrapN _ (by omega)]
      have cpa : Nat.gcd (b.natAbs / g) a.natAbs = 1 := Nat.Coprime.coprime_dvd_left hpb (by rw [Nat.coprime_comm]; exact cab)
      have cqc : Nat.gcd (d.natAbs / g) c.natAbs = 1 := Nat.Coprime.coprime_dvd_left hqd (by rw [Nat.coprime_comm]; exact ccd)
      obtain ⟨p, hp⟩ : ∃ p, b.natAbs / g = p := ⟨_, rfl⟩
      obtain ⟨q, hq⟩ : ∃ q, d.natAbs / g = q := ⟨_, rfl⟩
      rw [hp] at cpq hp0 hple eb w1 cpa
      rw [hq] at cpq hq0 hqle ed w2 cqc
      have t1 := times_eq ia q (by omega)
      have t2 := times_eq ic p (by omega)
      have m1 : a.natAbs * q ≤ 1329227995784915872903807060280344576 := Nat.le_trans (Nat.mul_le_mul la (show q ≤ 1152921504606846976 by omega)) (by decide)
      have m2 : c.natAbs * p ≤ 1329227995784915872903807060280344576 := Nat.le_trans (Nat.mul_le_mul lc (show p ≤ 1152921504606846976 by omega)) (by decide)
      have pl := wplus_ev (decide (a < 0)) (a.natAbs * q) (decide (c < 0)) (c.natAbs * p) (by omega)
      have hle := tot_le (decide (a < 0)) (a.natAbs * q) (decide (c < 0)) (c.natAbs * p)
      have sc := tot_scale g hg0 (decide (a < 0)) (a.natAbs * q) (decide (c < 0)) (c.natAbs * p)
      rw [Nat.mul_left_comm g a.natAbs q, Nat.mul_left_comm g c.natAbs p, ed, eb] at sc
      have g1 : Nat.gcd (tot (decide (a < 0)) (a.natAbs * q) (decide (c < 0)) (c.natAbs * p)).2 p = 1 := by
        have k1 := Nat.gcd_dvd_left (tot (decide (a < 0)) (a.natAbs * q) (decide (c < 0)) (c.natAbs * p)).2 p
        have k2 := Nat.gcd_dvd_right (tot (decide (a < 0)) (a.natAbs * q) (decide (c < 0)) (c.natAbs * p)).2 p
        exact coprime_part cpa cpq k2 (tot_dvd_left k1 (Nat.dvd_trans k2 (Nat.dvd_mul_left _ _)))
      have g2 : Nat.gcd (tot (decide (a < 0)) (a.natAbs * q) (decide (c < 0)) (c.natAbs * p)).2 q = 1 := by
        have k1 := Nat.gcd_dvd_left (tot (decide (a < 0)) (a.natAbs * q) (decide (c < 0)) (c.natAbs * p)).2 q
        have k2 := Nat.gcd_dvd_right (tot (decide (a < 0)) (a.natAbs * q) (decide (c < 0)) (c.natAbs * p)).2 q
        exact coprime_part cqc (by rw [Nat.gcd_comm]; exact cpq) k2 (tot_dvd_right k1 (Nat.dvd_trans k2 (Nat.dvd_mul_left _ _)))
      rw [sc]
      obtain ⟨s, hs⟩ : ∃ s, (tot (decide (a < 0)) (a.natAbs * q) (decide (c < 0)) (c.natAbs * p)).1 = s := ⟨_, rfl⟩
      obtain ⟨t, ht⟩ : ∃ t, (tot (decide (a < 0)) (a.natAbs * q) (decide (c < 0)) (c.natAbs * p)).2 = t := ⟨_, rfl⟩
      rw [hs, ht] at pl
      rw [ht] at hle g1 g2
      have fin := j1_ev s g p q t hg0 hp0 hq0 (by omega) (by omega) (by omega) (by omega) g1 g2
      rw [eb, ed] at fin
      show Ev _ (red (tot (decide (a < 0)) (a.natAbs * q) (decide (c < 0)) (c.natAbs * p)).1 (g * (tot (decide (a < 0)) (a.natAbs * q) (decide (c < 0)) (c.natAbs * p)).2) (b.natAbs * d.natAbs))
      rw [hs, ht]
      refine Ev.step (f := fun k => (ratio_gcd.f k (b.natAbs : Int) (d.natAbs : Int)).bind fun t679 => if t679 = 0 then none else (ratio_times.f a (IntKind.u64.wrap (Int.tdiv (d.natAbs : Int) t679))).bind fun bt680 => ((ratio_times.f c (IntKind.u64.wrap (Int.tdiv (b.natAbs : Int) t679))).bind fun bt683 => ((ratio_wide_plus.f k bt680.1 bt680.2.1 bt680.2.2 bt683.1 bt683.2.1 bt683.2.2).bind fun bt686 => (if bt686.2.1 = 0 then (ratio_Add.j1 k t679 (IntKind.u64.wrap (Int.tdiv (b.natAbs : Int) t679)) (IntKind.u64.wrap (Int.tdiv (d.natAbs : Int) t679)) (bt686.2.2 == 0) bt686.1 bt686.2.1 bt686.2.2) else (ratio_Add.j1 k t679 (IntKind.u64.wrap (Int.tdiv (b.natAbs : Int) t679)) (IntKind.u64.wrap (Int.tdiv (d.natAbs : Int) t679)) false bt686.1 bt686.2.1 bt686.2.2))))) (fun k => ?_) ?_
      · simp only [ratio_Add.j0]
        rw [if_neg (by simpa using h2), wb, wd]
      refine Ev.bind r0 ?_
      refine Ev.congr (fun k => by rw [if_neg (show ¬ ((g : Nat) : Int) = 0 by omega), w1, w2, t1, t2, Option.bind_some, Option.bind_some]) ?_
      refine Ev.bind pl ?_
      refine Ev.congr (fun k => ?_) fin
      show (if hi t = 0 then ratio_Add.j1 k g p q (lo t == 0) s (hi t) (lo t) else ratio_Add.j1 k g p q false s (hi t) (lo t)) = _
      by_cases h6 : hi t = 0
      · rw [if_pos h6, show (lo t == 0) = decide (t = 0) from by rw [Bool.eq_iff_iff, beq_iff_eq, decide_eq_true_eq]; unfold hi at h6; unfold lo; omega]
      · rw [if_neg h6, show decide (t = 0) = false from by rw [decide_eq_false_iff_not]; unfold hi at h6; omega]
    · have e : addR a b c d = (0, 0, 1) := by unfold addR; rw [if_neg (fun h => h2 h.2)]
      rw [e]
      refine ev_some (fun k => ?_)
      simp only [ratio_Add.j0]
      rw [if_pos (by simpa using h2)]
  · have e : addR a b c d = (0, 0, 1) := by unfold addR; rw [if_neg (fun h => h1 h.1)]
    rw [e]
    refine Ev.congr (fun k => by rw [if_neg (by simpa using h1)]) ?_
    refine ev_some (fun k => ?_)
    simp only [ratio_Add.j0]
    rw [if_pos trivial]

end Go.Proofs.Ytcbohbeipgcfhaa.Mth

-- Printed by gp.py (a program of this session's own, over the kit's printer) out of the translation; Lean checks it.
namespace Go.Proofs.Ytcbohbeipgcfhaa.G
open Go.Proofs.Ytcbohbeipgcfhaa.Given Go.Proofs.Ytcbohbeipgcfhaa.Short
open Go.RowKit Go.Proofs.YtcbohbeipgcfhaaW.PrintWords Go.Proofs.YtcbohbeipgcfhaaW.PrintLast Go.Proofs.YtcbohbeipgcfhaaW.PrintMore
attribute [local go_sem] max2_int min2_int max_two min_two max_three min_three max_four min_four   -- for this text's walks alone
set_option linter.unusedVariables false
set_option linter.unusedSimpArgs false

/-! ### awardingbodymake_Tape_Wild: function 68 -/
def awardingbodymake_Tape_Wild.f (s0_0 : List Int) (s0_1 : Int) : Option (Int × Int) := (awardingbodymake_Tape_Pick.f s0_0 s0_1 (([(-1), 0, 1, 2, 31, 32, 99, 100, 200, 201, 9999, 10000, 1000000, 1000001, 1152921504606846976, 1152921504606846977, (-1152921504606846976), 9223372036854775807, (-9223372036854775808)] : List Int))).bind fun bt323 => (some (bt323.1, bt323.2))
set_option maxHeartbeats 8000000 in
set_option maxRecDepth 100000 in
theorem awardingbodymake_Tape_Wild.calls (g : Nat) (s0_0 : List Int) (s0_1 : Int) (r1 : Int) (r2 : Int) (w0 w : World) (hI : IsS53 w0 w g s0_0 s0_1) (hB : Below w0.heap.size w0 w) (h : awardingbodymake_Tape_Wild.f s0_0 s0_1 = some (r1, r2)) :
  Calls Try.prog 68 #[.pointer (some ⟨g, 0, none⟩)] w fun e w' => e = .returned (.int .i64 r1) ∧ IsS53 w0 w' g s0_0 r2 ∧ Below w0.heap.size w0 w' ∧ KeepBut w w' g none := by
 have HI0 := Aside0.mk hI
 have HK := Aside0.mk (KeepBut.refl w g none)
 have HL := Aside0.mk hB.size
 clear hI
 have HW0 := Aside0.mk hB.size
 have HB := Aside0.mk hB
 clear hB
 have H : ((awardingbodymake_Tape_Pick.f s0_0 s0_1 (([(-1), 0, 1, 2, 31, 32, 99, 100, 200, 201, 9999, 10000, 1000000, 1000001, 1152921504606846976, 1152921504606846977, (-1152921504606846976), 9223372036854775807, (-9223372036854775808)] : List Int))).bind fun bt323 => (some (bt323.1, bt323.2))) = some (r1, r2) := h
 clear h
 obtain ⟨y320, hy320⟩ : ∃ y_ : List Int, y_ = (([(-1), 0, 1, 2, 31, 32, 99, 100, 200, 201, 9999, 10000, 1000000, 1000001, 1152921504606846976, 1152921504606846977, (-1152921504606846976), 9223372036854775807, (-9223372036854775808)] : List Int)) := ⟨_, rfl⟩
 replace H : ((awardingbodymake_Tape_Pick.f s0_0 s0_1 y320).bind fun bt323 => (some (bt323.1, bt323.2))) = some (r1, r2) := by first | (rw [hy320]; with_reducible exact H) | (have H2_ := (Option.bind_some _ _).symm.trans H; rw [hy320]; with_reducible exact H2_) | (have H2_ := (Option.bind_some _ _).symm.trans H; with_reducible exact H2_) | with_reducible exact H | (rw [hy320]; exact H) | exact H
 have Ny320 := Aside0.mk hy320
 clear hy320
 replace H := Option.bind_eq_some_iff.mp H
 obtain ⟨⟨t323, t324⟩, A20, H⟩ := H
 replace H : (some (t323, t324)) = some (r1, r2) := H
 have A2 := Aside0.mk A20
 clear A20
 simp only [Option.some.injEq, Prod.mk.injEq] at H
 obtain ⟨rfl, rfl⟩ := H
 go_enter Try.func68, Try.ntmps68
 go_wp2_with (first | ((with_reducible refine gate_dst (N := 4) rfl ?_); refine Kd.R_lit (Kd.int .i64) _ 3 ?hg (N := 4) ?hd (xs := ([(-1), 0, 1, 2, 31, 32, 99, 100, 200, 201, 9999, 10000, 1000000, 1000001, 1152921504606846976, 1152921504606846977, (-1152921504606846976), 9223372036854775807, (-9223372036854775808)] : List Int)) (inner := [.int .i64 (-1), .int .i64 0, .int .i64 1, .int .i64 2, .int .i64 31, .int .i64 32, .int .i64 99, .int .i64 100, .int .i64 200, .int .i64 201, .int .i64 9999, .int .i64 10000, .int .i64 1000000, .int .i64 1000001, .int .i64 1152921504606846976, .int .i64 1152921504606846977, .int .i64 (-1152921504606846976), .int .i64 9223372036854775807, .int .i64 (-9223372036854775808)]) (ok := fun _ => True) (okp := fun _ => True) ?hr ?hp (fun _ hk => hk) trivial (Below.refl _ _) (Nat.le_refl _) (by simp) ?_; (case hd => rfl); (case hg => rfl); (case hr => first | (go_simp; done) | (go_simp; rfl)); (case hp => exact (Reps.one (show Kd.M (Kd.int .i64) _ _ _ (-1) [.int .i64 (-1)] from rfl) (Reps.one (show Kd.M (Kd.int .i64) _ _ _ 0 [.int .i64 0] from rfl) (Reps.one (show Kd.M (Kd.int .i64) _ _ _ 1 [.int .i64 1] from rfl) (Reps.one (show Kd.M (Kd.int .i64) _ _ _ 2 [.int .i64 2] from rfl) (Reps.one (show Kd.M (Kd.int .i64) _ _ _ 31 [.int .i64 31] from rfl) (Reps.one (show Kd.M (Kd.int .i64) _ _ _ 32 [.int .i64 32] from rfl) (Reps.one (show Kd.M (Kd.int .i64) _ _ _ 99 [.int .i64 99] from rfl) (Reps.one (show Kd.M (Kd.int .i64) _ _ _ 100 [.int .i64 100] from rfl) (Reps.one (show Kd.M (Kd.int .i64) _ _ _ 200 [.int .i64 200] from rfl) (Reps.one (show Kd.M (Kd.int .i64) _ _ _ 201 [.int .i64 201] from rfl) (Reps.one (show Kd.M (Kd.int .i64) _ _ _ 9999 [.int .i64 9999] from rfl) (Reps.one (show Kd.M (Kd.int .i64) _ _ _ 10000 [.int .i64 10000] from rfl) (Reps.one (show Kd.M (Kd.int .i64) _ _ _ 1000000 [.int .i64 1000000] from rfl) (Reps.one (show Kd.M (Kd.int .i64) _ _ _ 1000001 [.int .i64 1000001] from rfl) (Reps.one (show Kd.M (Kd.int .i64) _ _ _ 1152921504606846976 [.int .i64 1152921504606846976] from rfl) (Reps.one (show Kd.M (Kd.int .i64) _ _ _ 1152921504606846977 [.int .i64 1152921504606846977] from rfl) (Reps.one (show Kd.M (Kd.int .i64) _ _ _ (-1152921504606846976) [.int .i64 (-1152921504606846976)] from rfl) (Reps.one (show Kd.M (Kd.int .i64) _ _ _ 9223372036854775807 [.int .i64 9223372036854775807] from rfl) (Reps.one (show Kd.M (Kd.int .i64) _ _ _ (-9223372036854775808) [.int .i64 (-9223372036854775808)] from rfl) (Reps.none _ _))))))))))))))))))))); intro v321 w3 ho4 hb hg_ hnew_; clear hg_ hnew_; (first | rw [← Ny320.out] at ho4 | (simp only [Int.reduceToNat] at ho4; rw [← Ny320.out] at ho4)); have HO322 := Aside0.mk (Kd.R_lower ho4 (keep_size (w := w) (g := g) (row := none) (by repeat (first | (with_reducible first | exact HK.out | apply KeepBut.set_ | apply keep_drewN | apply keep_drew | apply keep_alloc) | exact HK.out)))); replace HI0 := Aside0.mk (IsS53.below (by repeat (first | (with_reducible first | exact HI0.out | apply IsS53.alloc | apply IsS53.drewN | apply IsS53.drew | apply IsS53.set_1) | exact HI0.out)) hb); replace HK := Aside0.mk (KeepBut.trans (by repeat (first | (with_reducible first | exact HK.out | apply KeepBut.set_ | apply keep_drewN | apply keep_drew | apply keep_alloc) | exact HK.out)) (KeepBut.of_below hb g none) (.inl rfl)); replace HB := Aside0.mk (below_step (by repeat (first | (with_reducible first | exact HB.out | apply below_alloc | apply pw_below_drewN | apply below_drew1 | refine below_set ?_ (IsS53.ge HI0.out)) | exact HB.out)) hb); clear hb ho4; obtain ⟨Ao5, co5, eo5⟩ := Kd.R_slice HO322.out; subst eo5) | ((with_reducible refine gate_callee (f := 66) rfl ?_); refine goesL_ (some 5) rfl rfl Try.func66 (by kernel_rfl) rfl #[.pointer (some ⟨g, 0, none⟩), .slice Ao5 y320.length co5] rfl (by (try simp only [List.map_toArray, List.map_cons, List.map_nil]); first | done | rfl | (simp only [List.length_drop, List.length_take]; rfl)) ?_; (with_reducible refine (awardingbodymake_Tape_Pick.calls g s0_0 s0_1 _ _ y320 t323 t324 w0 _ ?side1 ?side2 ?side3 ?side4 ?side5 A2.out).mono ?_); (case side1 => repeat (first | (with_reducible first | exact HI0.out | apply IsS53.alloc | apply IsS53.drewN | apply IsS53.drew | apply IsS53.set_1) | exact HI0.out)); (case side2 => repeat (first | (with_reducible first | exact HB.out | apply below_alloc | apply pw_below_drewN | apply below_drew1 | refine below_set ?_ (IsS53.ge HI0.out)) | exact HB.out)); (case side3 => repeat (first | exact (Kd.R_reads' HO322.out).2.2 | (with_reducible refine Kd.C_alloc ?_ _) | (with_reducible refine Kd.C_drewN ?_ _) | (with_reducible refine Kd.C_drew ?_))); (case side4 => exact (Kd.R_reads' HO322.out).2.1); (case side5 => exact far_slice (IsS53.own_ne HI0.out HO322.out (by decide))); rintro e w6 ⟨rfl, hi, hb, hk⟩; refine ⟨_, rfl, ?_⟩; replace HO322 := Aside0.mk (Kd.R_mono (Kd.R_keep (IsS53.apart (show IsS53 w0 _ g s0_0 s0_1 from by repeat (first | (with_reducible first | exact HI0.out | apply IsS53.alloc | apply IsS53.drewN | apply IsS53.drew | apply IsS53.set_1) | exact HI0.out)) (by (with_reducible repeat (first | apply Kd.R_alloc | apply Kd.R_drewN | apply Kd.R_drew)); exact HO322.out) (by decide)) hk (fun _ h => h.2)) (fun _ h => h.1)); replace HK := Aside0.mk (KeepBut.trans (by repeat (first | (with_reducible first | exact HK.out | apply KeepBut.set_ | apply keep_drewN | apply keep_drew | apply keep_alloc) | exact HK.out)) hk (.inl rfl)); replace HB := Aside0.mk (hb); replace HI0 := Aside0.mk (hi); (try clear hb); (try clear hb2); (try clear hk); (try clear hi)))
 go_ret
 exact ⟨by first | rfl | (simp [errW_none, errW_some] <;> rfl) | (simp [*, errW_none, errW_some] <;> rfl), by repeat (first | (with_reducible first | exact HI0.out | apply IsS53.alloc | apply IsS53.drewN | apply IsS53.drew | apply IsS53.set_1) | exact HI0.out), by repeat (first | (with_reducible first | exact HB.out | apply below_alloc | apply pw_below_drewN | apply below_drew1 | refine below_set ?_ (IsS53.ge HI0.out)) | exact HB.out), by repeat (first | (with_reducible first | exact HK.out | apply KeepBut.set_ | apply keep_drewN | apply keep_drew | apply keep_alloc) | exact HK.out)⟩

end Go.Proofs.Ytcbohbeipgcfhaa.G

-- Printed by gp.py (a program of this session's own, over the kit's printer) out of the translation; Lean checks it.
namespace Go.Proofs.Ytcbohbeipgcfhaa.G
open Go.Proofs.Ytcbohbeipgcfhaa.Given Go.Proofs.Ytcbohbeipgcfhaa.Short
open Go.RowKit Go.Proofs.YtcbohbeipgcfhaaW.PrintWords Go.Proofs.YtcbohbeipgcfhaaW.PrintLast Go.Proofs.YtcbohbeipgcfhaaW.PrintMore
attribute [local go_sem] max2_int min2_int max_two min_two max_three min_three max_four min_four   -- for this text's walks alone
set_option linter.unusedVariables false
set_option linter.unusedSimpArgs false

/-! ### awardingbodymake_Tape_Spoil: function 55 -/
def awardingbodymake_Tape_Spoil.f (s0_0 : List Int) (s0_1 : Int) (a1 : Int) (a2 : Int) : Option (Int × Int) := if a2 > 0 then ((awardingbodymake_Tape_One.f s0_0 s0_1 a2).bind fun bt325 => (if bt325.1 = true then ((awardingbodymake_Tape_Wild.f s0_0 bt325.2).bind fun bt327 => (some (bt327.1, bt327.2))) else (some (a1, bt325.2)))) else (some (a1, s0_1))
set_option maxHeartbeats 8000000 in
set_option maxRecDepth 100000 in
theorem awardingbodymake_Tape_Spoil.calls (g : Nat) (s0_0 : List Int) (s0_1 : Int) (a1 : Int) (a2 : Int) (r1 : Int) (r2 : Int) (w0 w : World) (hI : IsS53 w0 w g s0_0 s0_1) (hB : Below w0.heap.size w0 w) (h : awardingbodymake_Tape_Spoil.f s0_0 s0_1 a1 a2 = some (r1, r2)) :
  Calls Try.prog 55 #[.pointer (some ⟨g, 0, none⟩), .int .i64 a1, .int .i64 a2] w fun e w' => e = .returned (.int .i64 r1) ∧ IsS53 w0 w' g s0_0 r2 ∧ Below w0.heap.size w0 w' ∧ KeepBut w w' g none := by
 have HI0 := Aside0.mk hI
 have HK := Aside0.mk (KeepBut.refl w g none)
 have HL := Aside0.mk hB.size
 clear hI
 have HW0 := Aside0.mk hB.size
 have HB := Aside0.mk hB
 clear hB
 have H : (if a2 > 0 then ((awardingbodymake_Tape_One.f s0_0 s0_1 a2).bind fun bt325 => (if bt325.1 = true then ((awardingbodymake_Tape_Wild.f s0_0 bt325.2).bind fun bt327 => (some (bt327.1, bt327.2))) else (some (a1, bt325.2)))) else (some (a1, s0_1))) = some (r1, r2) := h
 clear h
 by_cases c4 : a2 > 0
 ·rw [if_pos c4] at H
  have c4b0 : decide (0 < a2) = true := decide_eq_true c4
  clear c4
  replace H := Option.bind_eq_some_iff.mp H
  obtain ⟨⟨t325, t326⟩, A50, H⟩ := H
  replace H : (if t325 = true then ((awardingbodymake_Tape_Wild.f s0_0 t326).bind fun bt327 => (some (bt327.1, bt327.2))) else (some (a1, t326))) = some (r1, r2) := H
  have A5 := Aside0.mk A50
  clear A50
  by_cases c6 : t325 = true
  ·subst c6
   have H1 : ((awardingbodymake_Tape_Wild.f s0_0 t326).bind fun bt327 => (some (bt327.1, bt327.2))) = some (r1, r2) := by rw [if_pos rfl] at H; exact H
   clear H
   have H := H1
   clear H1
   replace H := Option.bind_eq_some_iff.mp H
   obtain ⟨⟨t327, t328⟩, A70, H⟩ := H
   replace H : (some (t327, t328)) = some (r1, r2) := H
   have A7 := Aside0.mk A70
   clear A70
   simp only [Option.some.injEq, Prod.mk.injEq] at H
   obtain ⟨rfl, rfl⟩ := H
   go_enter Try.func55, Try.ntmps55
   go_wp2_with (first | (go_at_call 54; (with_reducible refine (awardingbodymake_Tape_One.calls g s0_0 s0_1 a2 true t326 w0 _ ?side1 ?side2 A5.out).mono ?_); (case side1 => repeat (first | (with_reducible first | exact HI0.out | apply IsS53.alloc | apply IsS53.drewN | apply IsS53.drew | apply IsS53.set_1) | exact HI0.out)); (case side2 => repeat (first | (with_reducible first | exact HB.out | apply below_alloc | apply pw_below_drewN | apply below_drew1 | refine below_set ?_ (IsS53.ge HI0.out)) | exact HB.out)); rintro e w8 ⟨rfl, hi, hb, hk⟩; replace HK := Aside0.mk (KeepBut.trans (by repeat (first | (with_reducible first | exact HK.out | apply KeepBut.set_ | apply keep_drewN | apply keep_drew | apply keep_alloc) | exact HK.out)) hk (.inl rfl)); replace HB := Aside0.mk (hb); replace HI0 := Aside0.mk (hi); (try clear hb); (try clear hb2); (try clear hk); (try clear hi)) | ((with_reducible refine gate_callee (f := 68) rfl ?_); refine goesL_ (some 15) rfl rfl Try.func68 (by kernel_rfl) rfl #[.pointer (some ⟨g, 0, none⟩)] rfl (by (try simp only [List.map_toArray, List.map_cons, List.map_nil]); first | done | rfl | (simp only [List.length_drop, List.length_take]; rfl)) ?_; (with_reducible refine (awardingbodymake_Tape_Wild.calls g s0_0 t326 t327 t328 w0 _ ?side1 ?side2 A7.out).mono ?_); (case side1 => repeat (first | (with_reducible first | exact HI0.out | apply IsS53.alloc | apply IsS53.drewN | apply IsS53.drew | apply IsS53.set_1) | exact HI0.out)); (case side2 => repeat (first | (with_reducible first | exact HB.out | apply below_alloc | apply pw_below_drewN | apply below_drew1 | refine below_set ?_ (IsS53.ge HI0.out)) | exact HB.out)); rintro e w9 ⟨rfl, hi, hb, hk⟩; refine ⟨_, rfl, ?_⟩; replace HK := Aside0.mk (KeepBut.trans (by repeat (first | (with_reducible first | exact HK.out | apply KeepBut.set_ | apply keep_drewN | apply keep_drew | apply keep_alloc) | exact HK.out)) hk (.inl rfl)); replace HB := Aside0.mk (hb); replace HI0 := Aside0.mk (hi); (try clear hb); (try clear hb2); (try clear hk); (try clear hi)))
   go_ret
   exact ⟨by first | rfl | (simp [errW_none, errW_some] <;> rfl) | (simp [*, errW_none, errW_some] <;> rfl), by repeat (first | (with_reducible first | exact HI0.out | apply IsS53.alloc | apply IsS53.drewN | apply IsS53.drew | apply IsS53.set_1) | exact HI0.out), by repeat (first | (with_reducible first | exact HB.out | apply below_alloc | apply pw_below_drewN | apply below_drew1 | refine below_set ?_ (IsS53.ge HI0.out)) | exact HB.out), by repeat (first | (with_reducible first | exact HK.out | apply KeepBut.set_ | apply keep_drewN | apply keep_drew | apply keep_alloc) | exact HK.out)⟩
  ·replace c6 := Bool.eq_false_iff.mpr c6
   subst c6
   have H1 : (some (a1, t326)) = some (r1, r2) := by rw [if_neg (show ¬ (false = true) by decide)] at H; exact H
   clear H
   have H := H1
   clear H1
   simp only [Option.some.injEq, Prod.mk.injEq] at H
   obtain ⟨rfl, rfl⟩ := H
   go_enter Try.func55, Try.ntmps55
   go_wp2_with (first | (go_at_call 54; (with_reducible refine (awardingbodymake_Tape_One.calls g s0_0 s0_1 a2 false t326 w0 _ ?side1 ?side2 A5.out).mono ?_); (case side1 => repeat (first | (with_reducible first | exact HI0.out | apply IsS53.alloc | apply IsS53.drewN | apply IsS53.drew | apply IsS53.set_1) | exact HI0.out)); (case side2 => repeat (first | (with_reducible first | exact HB.out | apply below_alloc | apply pw_below_drewN | apply below_drew1 | refine below_set ?_ (IsS53.ge HI0.out)) | exact HB.out)); rintro e w10 ⟨rfl, hi, hb, hk⟩; replace HK := Aside0.mk (KeepBut.trans (by repeat (first | (with_reducible first | exact HK.out | apply KeepBut.set_ | apply keep_drewN | apply keep_drew | apply keep_alloc) | exact HK.out)) hk (.inl rfl)); replace HB := Aside0.mk (hb); replace HI0 := Aside0.mk (hi); (try clear hb); (try clear hb2); (try clear hk); (try clear hi)))
   go_ret
   exact ⟨by first | rfl | (simp [errW_none, errW_some] <;> rfl) | (simp [*, errW_none, errW_some] <;> rfl), by repeat (first | (with_reducible first | exact HI0.out | apply IsS53.alloc | apply IsS53.drewN | apply IsS53.drew | apply IsS53.set_1) | exact HI0.out), by repeat (first | (with_reducible first | exact HB.out | apply below_alloc | apply pw_below_drewN | apply below_drew1 | refine below_set ?_ (IsS53.ge HI0.out)) | exact HB.out), by repeat (first | (with_reducible first | exact HK.out | apply KeepBut.set_ | apply keep_drewN | apply keep_drew | apply keep_alloc) | exact HK.out)⟩
 ·rw [if_neg c4] at H
  have c4b0 : decide (0 < a2) = false := decide_eq_false c4
  clear c4
  simp only [Option.some.injEq, Prod.mk.injEq] at H
  obtain ⟨rfl, rfl⟩ := H
  go_enter Try.func55, Try.ntmps55
  go_wp2
  go_ret
  exact ⟨by first | rfl | (simp [errW_none, errW_some] <;> rfl) | (simp [*, errW_none, errW_some] <;> rfl), by repeat (first | (with_reducible first | exact HI0.out | apply IsS53.alloc | apply IsS53.drewN | apply IsS53.drew | apply IsS53.set_1) | exact HI0.out), by repeat (first | (with_reducible first | exact HB.out | apply below_alloc | apply pw_below_drewN | apply below_drew1 | refine below_set ?_ (IsS53.ge HI0.out)) | exact HB.out), by repeat (first | (with_reducible first | exact HK.out | apply KeepBut.set_ | apply keep_drewN | apply keep_drew | apply keep_alloc) | exact HK.out)⟩

end Go.Proofs.Ytcbohbeipgcfhaa.G

-- Printed by gp.py (a program of this session's own, over the kit's printer) out of the translation; Lean checks it.
namespace Go.Proofs.Ytcbohbeipgcfhaa.G
open Go.Proofs.Ytcbohbeipgcfhaa.Given Go.Proofs.Ytcbohbeipgcfhaa.Short
open Go.RowKit Go.Proofs.YtcbohbeipgcfhaaW.PrintWords Go.Proofs.YtcbohbeipgcfhaaW.PrintLast Go.Proofs.YtcbohbeipgcfhaaW.PrintMore
attribute [local go_sem] max2_int min2_int max_two min_two max_three min_three max_four min_four   -- for this text's walks alone
set_option linter.unusedVariables false
set_option linter.unusedSimpArgs false

/-! ### awardingbodymake_Tape_Loose: function 26 -/
def awardingbodymake_Tape_Loose.f (k : Nat) (s0_0 : List Int) (s0_1 : Int) : Option (Int × Int × Int) := (awardingbodymake_Tape_Ratio.f k s0_0 s0_1).bind fun bt330 => ((awardingbodymake_Tape_One.f s0_0 bt330.2.2 3).bind fun bt334 => (if bt334.1 = true then ((awardingbodymake_Tape_Range.f s0_0 bt334.2 (-8) 8).bind fun bt336 => ((awardingbodymake_Tape_Spoil.f s0_0 bt336.2 bt336.1 3).bind fun bt338 => ((awardingbodymake_Tape_Range.f s0_0 bt338.2 (-1) 8).bind fun bt340 => ((awardingbodymake_Tape_Spoil.f s0_0 bt340.2 bt340.1 3).bind fun bt342 => (some (bt338.1, bt342.1, bt342.2)))))) else (some (bt330.1, bt330.2.1, bt334.2))))
theorem awardingbodymake_Tape_Loose.mono : ∀ a0 a1 k, LeO (awardingbodymake_Tape_Loose.f k a0 a1) (awardingbodymake_Tape_Loose.f (k + 1) a0 a1) := by
 intro a0 a1 k
 unfold awardingbodymake_Tape_Loose.f
 repeat' first
   | (with_reducible exact awardingbodymake_Tape_Ratio.mono _ _ _)
   | (with_reducible exact LeO.refl _)
   | (with_reducible exact LeO.none _)
   | (with_reducible refine LeO.ite ?_ ?_)
   | (with_reducible refine LeO.bind ?_ (fun _ => ?_))
   | exact awardingbodymake_Tape_Ratio.mono _ _ _
   | exact LeO.none _
   | refine LeO.ite ?_ ?_
   | refine LeO.bind ?_ (fun _ => ?_)
set_option maxHeartbeats 8000000 in
set_option maxRecDepth 100000 in
theorem awardingbodymake_Tape_Loose.calls (k : Nat) (g : Nat) (s0_0 : List Int) (s0_1 : Int) (r1 : Int) (r2 : Int) (r3 : Int) (w0 w : World) (hI : IsS53 w0 w g s0_0 s0_1) (hB : Below w0.heap.size w0 w) (h : awardingbodymake_Tape_Loose.f k s0_0 s0_1 = some (r1, r2, r3)) :
  Calls Try.prog 26 #[.pointer (some ⟨g, 0, none⟩)] w fun e w' => e = .returned (.agg #[.int .i64 r1, .int .i64 r2]) ∧ IsS53 w0 w' g s0_0 r3 ∧ Below w0.heap.size w0 w' ∧ KeepBut w w' g none := by
 have hu35 := Try.underlying35
 have HI0 := Aside0.mk hI
 have HK := Aside0.mk (KeepBut.refl w g none)
 have HL := Aside0.mk hB.size
 clear hI
 have HW0 := Aside0.mk hB.size
 have HB := Aside0.mk hB
 clear hB
 have H : ((awardingbodymake_Tape_Ratio.f k s0_0 s0_1).bind fun bt330 => ((awardingbodymake_Tape_One.f s0_0 bt330.2.2 3).bind fun bt334 => (if bt334.1 = true then ((awardingbodymake_Tape_Range.f s0_0 bt334.2 (-8) 8).bind fun bt336 => ((awardingbodymake_Tape_Spoil.f s0_0 bt336.2 bt336.1 3).bind fun bt338 => ((awardingbodymake_Tape_Range.f s0_0 bt338.2 (-1) 8).bind fun bt340 => ((awardingbodymake_Tape_Spoil.f s0_0 bt340.2 bt340.1 3).bind fun bt342 => (some (bt338.1, bt342.1, bt342.2)))))) else (some (bt330.1, bt330.2.1, bt334.2))))) = some (r1, r2, r3) := h
 clear h
 replace H := Option.bind_eq_some_iff.mp H
 obtain ⟨⟨t330, t331, t332⟩, A20, H⟩ := H
 replace H : ((awardingbodymake_Tape_One.f s0_0 t332 3).bind fun bt334 => (if bt334.1 = true then ((awardingbodymake_Tape_Range.f s0_0 bt334.2 (-8) 8).bind fun bt336 => ((awardingbodymake_Tape_Spoil.f s0_0 bt336.2 bt336.1 3).bind fun bt338 => ((awardingbodymake_Tape_Range.f s0_0 bt338.2 (-1) 8).bind fun bt340 => ((awardingbodymake_Tape_Spoil.f s0_0 bt340.2 bt340.1 3).bind fun bt342 => (some (bt338.1, bt342.1, bt342.2)))))) else (some (t330, t331, bt334.2)))) = some (r1, r2, r3) := H
 have A2 := Aside0.mk A20
 clear A20
 replace H := Option.bind_eq_some_iff.mp H
 obtain ⟨⟨t334, t335⟩, A30, H⟩ := H
 replace H : (if t334 = true then ((awardingbodymake_Tape_Range.f s0_0 t335 (-8) 8).bind fun bt336 => ((awardingbodymake_Tape_Spoil.f s0_0 bt336.2 bt336.1 3).bind fun bt338 => ((awardingbodymake_Tape_Range.f s0_0 bt338.2 (-1) 8).bind fun bt340 => ((awardingbodymake_Tape_Spoil.f s0_0 bt340.2 bt340.1 3).bind fun bt342 => (some (bt338.1, bt342.1, bt342.2)))))) else (some (t330, t331, t335))) = some (r1, r2, r3) := H
 have A3 := Aside0.mk A30
 clear A30
 have HC4 := Aside0.mk H
 clear H
 go_enter Try.func26, Try.ntmps26
 go_upto_if 7 with (first | ((with_reducible refine gate_dst (N := 2) rfl ?_); refine box_event ?hg (N := 2) ?hd (cs := #[.int .i64 0, .int .i64 0]) (t := 35) ?hr ?_; (case hd => rfl); (case hg => rfl); (case hr => first | (go_simp; done) | (go_simp; rfl)); intro gb329 hg w5 hbox hb; have BK329 := Aside0.mk (hbox); have GW329 := Aside0.mk ((by rw [hg]; exact (keep_size (w := w) (g := g) (row := none) (by repeat (first | (with_reducible first | exact HK.out | apply KeepBut.set_ | apply keep_drewN | apply keep_drew | apply keep_alloc) | exact HK.out))) : w.heap.size ≤ gb329)); have GE329 := Aside0.mk ((Nat.le_trans HW0.out (by rw [hg]; exact (keep_size (w := w) (g := g) (row := none) (by repeat (first | (with_reducible first | exact HK.out | apply KeepBut.set_ | apply keep_drewN | apply keep_drew | apply keep_alloc) | exact HK.out))) : w.heap.size ≤ gb329) : w0.heap.size ≤ gb329)); have NB0_329 := Aside0.mk ((by rw [hg]; exact Nat.ne_of_lt (IsS53.lt (show IsS53 w0 _ g s0_0 s0_1 from by repeat (first | (with_reducible first | exact HI0.out | apply IsS53.alloc | apply IsS53.drewN | apply IsS53.drew | apply IsS53.set_1) | exact HI0.out))) : g ≠ gb329)); have NB329_0 := Aside0.mk ((by rw [hg]; exact Nat.ne_of_gt (IsS53.lt (show IsS53 w0 _ g s0_0 s0_1 from by repeat (first | (with_reducible first | exact HI0.out | apply IsS53.alloc | apply IsS53.drewN | apply IsS53.drew | apply IsS53.set_1) | exact HI0.out))) : gb329 ≠ g)); replace HI0 := Aside0.mk (IsS53.below (by repeat (first | (with_reducible first | exact HI0.out | apply IsS53.alloc | apply IsS53.drewN | apply IsS53.drew | apply IsS53.set_1) | exact HI0.out)) hb); replace HK := Aside0.mk (KeepBut.trans (by repeat (first | (with_reducible first | exact HK.out | apply KeepBut.set_ | apply keep_drewN | apply keep_drew | apply keep_alloc) | exact HK.out)) (KeepBut.of_below hb g none) (.inl rfl)); replace HB := Aside0.mk (below_step (by repeat (first | (with_reducible first | exact HB.out | apply below_alloc | apply pw_below_drewN | apply below_drew1 | refine below_set ?_ (IsS53.ge HI0.out)) | exact HB.out)) hb); clear hb hbox hg) | ((with_reducible refine gate_callee (f := 43) rfl ?_); refine goesL_ (some 5) rfl rfl Try.func43 (by kernel_rfl) rfl #[.pointer (some ⟨g, 0, none⟩)] rfl (by (try simp only [List.map_toArray, List.map_cons, List.map_nil]); first | done | rfl | (simp only [List.length_drop, List.length_take]; rfl)) ?_; (with_reducible refine (awardingbodymake_Tape_Ratio.calls k g s0_0 s0_1 t330 t331 t332 w0 _ ?side1 ?side2 A2.out).mono ?_); (case side1 => repeat (first | (with_reducible first | exact HI0.out | apply IsS53.alloc | apply IsS53.drewN | apply IsS53.drew | apply IsS53.set_1 | refine IsS53.far ?_ NB0_329.out _) | exact HI0.out)); (case side2 => repeat (first | (with_reducible first | exact HB.out | apply below_alloc | apply pw_below_drewN | apply below_drew1 | refine below_set ?_ (IsS53.ge HI0.out) | refine below_set ?_ GE329.out) | exact HB.out)); rintro e w6 ⟨rfl, hi, hb, hk⟩; refine ⟨_, rfl, ?_⟩; replace BK329 := Aside0.mk (KeepBut.blk hk (g' := gb329) (o := .cells #[.int .i64 0, .int .i64 0] 35 (0, 0)) (bq BK329) NB329_0.out (by simp)); replace HK := Aside0.mk (KeepBut.trans (by repeat (first | (with_reducible first | exact HK.out | apply KeepBut.set_ | apply keep_drewN | apply keep_drew | apply keep_alloc | refine keep_far ?_ GW329.out _) | exact HK.out)) hk (.inl rfl)); replace HB := Aside0.mk (hb); replace HI0 := Aside0.mk (hi); (try clear hb); (try clear hb2); (try clear hk); (try clear hi)) | ((with_reducible refine gate_dst (N := 3) rfl ?_); refine box_event ?hg (N := 3) ?hd (cs := #[.int .i64 0, .int .i64 0]) (t := 35) ?hr ?_; (case hd => rfl); (case hg => rfl); (case hr => first | (go_simp; done) | (go_simp; rfl)); intro gb333 hg w7 hbox hb; have BK333 := Aside0.mk (hbox); have GW333 := Aside0.mk ((by rw [hg]; exact (keep_size (w := w) (g := g) (row := none) (by repeat (first | (with_reducible first | exact HK.out | apply KeepBut.set_ | apply keep_drewN | apply keep_drew | apply keep_alloc | refine keep_far ?_ GW329.out _) | exact HK.out))) : w.heap.size ≤ gb333)); have GE333 := Aside0.mk ((Nat.le_trans HW0.out (by rw [hg]; exact (keep_size (w := w) (g := g) (row := none) (by repeat (first | (with_reducible first | exact HK.out | apply KeepBut.set_ | apply keep_drewN | apply keep_drew | apply keep_alloc | refine keep_far ?_ GW329.out _) | exact HK.out))) : w.heap.size ≤ gb333) : w0.heap.size ≤ gb333)); have NB329_333 := nl BK329 hg; have NB333_329 := nr BK329 hg; have NB0_333 := Aside0.mk ((by rw [hg]; exact Nat.ne_of_lt (IsS53.lt (show IsS53 w0 _ g s0_0 t332 from by repeat (first | (with_reducible first | exact HI0.out | apply IsS53.alloc | apply IsS53.drewN | apply IsS53.drew | apply IsS53.set_1 | refine IsS53.far ?_ NB0_329.out _) | exact HI0.out))) : g ≠ gb333)); have NB333_0 := Aside0.mk ((by rw [hg]; exact Nat.ne_of_gt (IsS53.lt (show IsS53 w0 _ g s0_0 t332 from by repeat (first | (with_reducible first | exact HI0.out | apply IsS53.alloc | apply IsS53.drewN | apply IsS53.drew | apply IsS53.set_1 | refine IsS53.far ?_ NB0_329.out _) | exact HI0.out))) : gb333 ≠ g)); replace HI0 := Aside0.mk (IsS53.below (by repeat (first | (with_reducible first | exact HI0.out | apply IsS53.alloc | apply IsS53.drewN | apply IsS53.drew | apply IsS53.set_1 | refine IsS53.far ?_ NB0_329.out _) | exact HI0.out)) hb); replace BK329 := kb BK329 hb; replace HK := Aside0.mk (KeepBut.trans (by repeat (first | (with_reducible first | exact HK.out | apply KeepBut.set_ | apply keep_drewN | apply keep_drew | apply keep_alloc | refine keep_far ?_ GW329.out _) | exact HK.out)) (KeepBut.of_below hb g none) (.inl rfl)); replace HB := Aside0.mk (below_step (by repeat (first | (with_reducible first | exact HB.out | apply below_alloc | apply pw_below_drewN | apply below_drew1 | refine below_set ?_ (IsS53.ge HI0.out) | refine below_set ?_ GE329.out) | exact HB.out)) hb); clear hb hbox hg; obtain ⟨hnb8, hnc8⟩ := n2 NB333_329; obtain ⟨hnb9, hnc9⟩ := n2 NB333_0; have hcz10_0 : w7.cell? ⟨gb333, 0, none⟩ = some (.int .i64 0) := (blk_cell BK333.out 0).trans rfl; have hcz10_1 : w7.cell? ⟨gb333, 1, none⟩ = some (.int .i64 0) := (blk_cell BK333.out 1).trans rfl; have hfz10_0 := blk_frozen BK333.out 0; have hfz10_1 := blk_frozen BK333.out 1) | ((with_reducible refine gate_callee (f := 54) rfl ?_); refine goesL_ (some 7) rfl rfl Try.func54 (by kernel_rfl) rfl #[.pointer (some ⟨g, 0, none⟩), .int .i64 3] rfl (by (try simp only [List.map_toArray, List.map_cons, List.map_nil]); first | done | rfl | (simp only [List.length_drop, List.length_take]; rfl)) ?_; (with_reducible refine (awardingbodymake_Tape_One.calls g s0_0 t332 3 t334 t335 w0 _ ?side1 ?side2 A3.out).mono ?_); (case side1 => repeat (first | (with_reducible first | exact HI0.out | apply IsS53.alloc | apply IsS53.drewN | apply IsS53.drew | apply IsS53.set_1 | refine IsS53.far ?_ NB0_329.out _ | refine IsS53.far ?_ NB0_333.out _) | exact HI0.out)); (case side2 => repeat (first | (with_reducible first | exact HB.out | apply below_alloc | apply pw_below_drewN | apply below_drew1 | refine below_set ?_ (IsS53.ge HI0.out) | refine below_set ?_ GE329.out | refine below_set ?_ GE333.out) | exact HB.out)); rintro e w11 ⟨rfl, hi, hb, hk⟩; refine ⟨_, rfl, ?_⟩; replace BK329 := Aside0.mk (KeepBut.blk hk (g' := gb329) (o := .cells #[.int .i64 0, .int .i64 0] 35 (0, 0)) (bq BK329) NB329_0.out (by simp)); replace BK333 := Aside0.mk (KeepBut.blk hk (g' := gb333) (o := .cells #[.int .i64 t330, .int .i64 t331] 35 (0, 0)) (by refine pe ?_; refine blk_put (cs := #[.int .i64 t330, .int .i64 0]) ?_ 1 _ rfl; refine pe ?_; refine blk_put (cs := #[.int .i64 0, .int .i64 0]) ?_ 0 _ rfl; refine pe ?_; exact BK333.out) NB333_0.out (by simp)); replace HK := Aside0.mk (KeepBut.trans (by repeat (first | (with_reducible first | exact HK.out | apply KeepBut.set_ | apply keep_drewN | apply keep_drew | apply keep_alloc | refine keep_far ?_ GW329.out _ | refine keep_far ?_ GW333.out _) | exact HK.out)) hk (.inl rfl)); replace HB := Aside0.mk (hb); replace HI0 := Aside0.mk (hi); (try clear hb); (try clear hb2); (try clear hk); (try clear hi)))
 (try simp only [Act.put, List.setIfInBounds_toArray, List.set_cons_zero, List.set_cons_succ])
 have H := HC4.out
 clear HC4
 by_cases c12 : t334 = true
 ·subst c12
  have H1 : ((awardingbodymake_Tape_Range.f s0_0 t335 (-8) 8).bind fun bt336 => ((awardingbodymake_Tape_Spoil.f s0_0 bt336.2 bt336.1 3).bind fun bt338 => ((awardingbodymake_Tape_Range.f s0_0 bt338.2 (-1) 8).bind fun bt340 => ((awardingbodymake_Tape_Spoil.f s0_0 bt340.2 bt340.1 3).bind fun bt342 => (some (bt338.1, bt342.1, bt342.2)))))) = some (r1, r2, r3) := by rw [if_pos rfl] at H; exact H
  clear H
  have H := H1
  clear H1
  replace H := Option.bind_eq_some_iff.mp H
  obtain ⟨⟨t336, t337⟩, A130, H⟩ := H
  replace H : ((awardingbodymake_Tape_Spoil.f s0_0 t337 t336 3).bind fun bt338 => ((awardingbodymake_Tape_Range.f s0_0 bt338.2 (-1) 8).bind fun bt340 => ((awardingbodymake_Tape_Spoil.f s0_0 bt340.2 bt340.1 3).bind fun bt342 => (some (bt338.1, bt342.1, bt342.2))))) = some (r1, r2, r3) := H
  have A13 := Aside0.mk A130
  clear A130
  replace H := Option.bind_eq_some_iff.mp H
  obtain ⟨⟨t338, t339⟩, A140, H⟩ := H
  replace H : ((awardingbodymake_Tape_Range.f s0_0 t339 (-1) 8).bind fun bt340 => ((awardingbodymake_Tape_Spoil.f s0_0 bt340.2 bt340.1 3).bind fun bt342 => (some (t338, bt342.1, bt342.2)))) = some (r1, r2, r3) := H
  have A14 := Aside0.mk A140
  clear A140
  replace H := Option.bind_eq_some_iff.mp H
  obtain ⟨⟨t340, t341⟩, A150, H⟩ := H
  replace H : ((awardingbodymake_Tape_Spoil.f s0_0 t341 t340 3).bind fun bt342 => (some (t338, bt342.1, bt342.2))) = some (r1, r2, r3) := H
  have A15 := Aside0.mk A150
  clear A150
  replace H := Option.bind_eq_some_iff.mp H
  obtain ⟨⟨t342, t343⟩, A160, H⟩ := H
  replace H : (some (t338, t342, t343)) = some (r1, r2, r3) := H
  have A16 := Aside0.mk A160
  clear A160
  simp only [Option.some.injEq, Prod.mk.injEq] at H
  obtain ⟨rfl, rfl, rfl⟩ := H
  go_wp2_with (first | ((with_reducible refine gate_callee (f := 47) rfl ?_); refine goesL_ (some 10) rfl rfl Try.func47 (by kernel_rfl) rfl #[.pointer (some ⟨g, 0, none⟩), .int .i64 (-8), .int .i64 8] rfl (by (try simp only [List.map_toArray, List.map_cons, List.map_nil]); first | done | rfl | (simp only [List.length_drop, List.length_take]; rfl)) ?_; (with_reducible refine (awardingbodymake_Tape_Range.calls g s0_0 t335 (-8) 8 t336 t337 w0 _ ?side1 ?side2 A13.out).mono ?_); (case side1 => repeat (first | (with_reducible first | exact HI0.out | apply IsS53.alloc | apply IsS53.drewN | apply IsS53.drew | apply IsS53.set_1 | refine IsS53.far ?_ NB0_329.out _ | refine IsS53.far ?_ NB0_333.out _) | exact HI0.out)); (case side2 => repeat (first | (with_reducible first | exact HB.out | apply below_alloc | apply pw_below_drewN | apply below_drew1 | refine below_set ?_ (IsS53.ge HI0.out) | refine below_set ?_ GE329.out | refine below_set ?_ GE333.out) | exact HB.out)); rintro e w17 ⟨rfl, hi, hb, hk⟩; refine ⟨_, rfl, ?_⟩; replace BK329 := Aside0.mk (KeepBut.blk hk (g' := gb329) (o := .cells #[.int .i64 0, .int .i64 0] 35 (0, 0)) (bq BK329) NB329_0.out (by simp)); replace BK333 := Aside0.mk (KeepBut.blk hk (g' := gb333) (o := .cells #[.int .i64 t330, .int .i64 t331] 35 (0, 0)) (bq BK333) NB333_0.out (by simp)); replace HK := Aside0.mk (KeepBut.trans (by repeat (first | (with_reducible first | exact HK.out | apply KeepBut.set_ | apply keep_drewN | apply keep_drew | apply keep_alloc | refine keep_far ?_ GW329.out _ | refine keep_far ?_ GW333.out _) | exact HK.out)) hk (.inl rfl)); replace HB := Aside0.mk (hb); replace HI0 := Aside0.mk (hi); (try clear hb); (try clear hb2); (try clear hk); (try clear hi)) | ((with_reducible refine gate_callee (f := 55) rfl ?_); refine goesL_ (some 11) rfl rfl Try.func55 (by kernel_rfl) rfl #[.pointer (some ⟨g, 0, none⟩), .int .i64 t336, .int .i64 3] rfl (by (try simp only [List.map_toArray, List.map_cons, List.map_nil]); first | done | rfl | (simp only [List.length_drop, List.length_take]; rfl)) ?_; (with_reducible refine (awardingbodymake_Tape_Spoil.calls g s0_0 t337 t336 3 t338 t339 w0 _ ?side1 ?side2 A14.out).mono ?_); (case side1 => repeat (first | (with_reducible first | exact HI0.out | apply IsS53.alloc | apply IsS53.drewN | apply IsS53.drew | apply IsS53.set_1 | refine IsS53.far ?_ NB0_329.out _ | refine IsS53.far ?_ NB0_333.out _) | exact HI0.out)); (case side2 => repeat (first | (with_reducible first | exact HB.out | apply below_alloc | apply pw_below_drewN | apply below_drew1 | refine below_set ?_ (IsS53.ge HI0.out) | refine below_set ?_ GE329.out | refine below_set ?_ GE333.out) | exact HB.out)); rintro e w18 ⟨rfl, hi, hb, hk⟩; refine ⟨_, rfl, ?_⟩; replace BK329 := Aside0.mk (KeepBut.blk hk (g' := gb329) (o := .cells #[.int .i64 0, .int .i64 0] 35 (0, 0)) (bq BK329) NB329_0.out (by simp)); replace BK333 := Aside0.mk (KeepBut.blk hk (g' := gb333) (o := .cells #[.int .i64 t330, .int .i64 t331] 35 (0, 0)) (bq BK333) NB333_0.out (by simp)); replace HK := Aside0.mk (KeepBut.trans (by repeat (first | (with_reducible first | exact HK.out | apply KeepBut.set_ | apply keep_drewN | apply keep_drew | apply keep_alloc | refine keep_far ?_ GW329.out _ | refine keep_far ?_ GW333.out _) | exact HK.out)) hk (.inl rfl)); replace HB := Aside0.mk (hb); replace HI0 := Aside0.mk (hi); (try clear hb); (try clear hb2); (try clear hk); (try clear hi)) | ((with_reducible refine gate_callee (f := 47) rfl ?_); refine goesL_ (some 14) rfl rfl Try.func47 (by kernel_rfl) rfl #[.pointer (some ⟨g, 0, none⟩), .int .i64 (-1), .int .i64 8] rfl (by (try simp only [List.map_toArray, List.map_cons, List.map_nil]); first | done | rfl | (simp only [List.length_drop, List.length_take]; rfl)) ?_; (with_reducible refine (awardingbodymake_Tape_Range.calls g s0_0 t339 (-1) 8 t340 t341 w0 _ ?side1 ?side2 A15.out).mono ?_); (case side1 => repeat (first | (with_reducible first | exact HI0.out | apply IsS53.alloc | apply IsS53.drewN | apply IsS53.drew | apply IsS53.set_1 | refine IsS53.far ?_ NB0_329.out _ | refine IsS53.far ?_ NB0_333.out _) | exact HI0.out)); (case side2 => repeat (first | (with_reducible first | exact HB.out | apply below_alloc | apply pw_below_drewN | apply below_drew1 | refine below_set ?_ (IsS53.ge HI0.out) | refine below_set ?_ GE329.out | refine below_set ?_ GE333.out) | exact HB.out)); rintro e w19 ⟨rfl, hi, hb, hk⟩; refine ⟨_, rfl, ?_⟩; replace BK329 := Aside0.mk (KeepBut.blk hk (g' := gb329) (o := .cells #[.int .i64 0, .int .i64 0] 35 (0, 0)) (bq BK329) NB329_0.out (by simp)); replace BK333 := Aside0.mk (KeepBut.blk hk (g' := gb333) (o := .cells #[.int .i64 t330, .int .i64 t331] 35 (0, 0)) (bq BK333) NB333_0.out (by simp)); replace HK := Aside0.mk (KeepBut.trans (by repeat (first | (with_reducible first | exact HK.out | apply KeepBut.set_ | apply keep_drewN | apply keep_drew | apply keep_alloc | refine keep_far ?_ GW329.out _ | refine keep_far ?_ GW333.out _) | exact HK.out)) hk (.inl rfl)); replace HB := Aside0.mk (hb); replace HI0 := Aside0.mk (hi); (try clear hb); (try clear hb2); (try clear hk); (try clear hi)) | ((with_reducible refine gate_callee (f := 55) rfl ?_); refine goesL_ (some 15) rfl rfl Try.func55 (by kernel_rfl) rfl #[.pointer (some ⟨g, 0, none⟩), .int .i64 t340, .int .i64 3] rfl (by (try simp only [List.map_toArray, List.map_cons, List.map_nil]); first | done | rfl | (simp only [List.length_drop, List.length_take]; rfl)) ?_; (with_reducible refine (awardingbodymake_Tape_Spoil.calls g s0_0 t341 t340 3 t342 t343 w0 _ ?side1 ?side2 A16.out).mono ?_); (case side1 => repeat (first | (with_reducible first | exact HI0.out | apply IsS53.alloc | apply IsS53.drewN | apply IsS53.drew | apply IsS53.set_1 | refine IsS53.far ?_ NB0_329.out _ | refine IsS53.far ?_ NB0_333.out _) | exact HI0.out)); (case side2 => repeat (first | (with_reducible first | exact HB.out | apply below_alloc | apply pw_below_drewN | apply below_drew1 | refine below_set ?_ (IsS53.ge HI0.out) | refine below_set ?_ GE329.out | refine below_set ?_ GE333.out) | exact HB.out)); rintro e w20 ⟨rfl, hi, hb, hk⟩; refine ⟨_, rfl, ?_⟩; replace BK329 := Aside0.mk (KeepBut.blk hk (g' := gb329) (o := .cells #[.int .i64 0, .int .i64 0] 35 (0, 0)) (bq BK329) NB329_0.out (by simp)); replace BK333 := Aside0.mk (KeepBut.blk hk (g' := gb333) (o := .cells #[.int .i64 t330, .int .i64 t331] 35 (0, 0)) (bq BK333) NB333_0.out (by simp)); replace HK := Aside0.mk (KeepBut.trans (by repeat (first | (with_reducible first | exact HK.out | apply KeepBut.set_ | apply keep_drewN | apply keep_drew | apply keep_alloc | refine keep_far ?_ GW329.out _ | refine keep_far ?_ GW333.out _) | exact HK.out)) hk (.inl rfl)); replace HB := Aside0.mk (hb); replace HI0 := Aside0.mk (hi); (try clear hb); (try clear hb2); (try clear hk); (try clear hi); obtain ⟨hnb21, hnc21⟩ := n2 NB329_333; obtain ⟨hnb22, hnc22⟩ := n2 NB329_0; have hcz23_0 : w20.cell? ⟨gb329, 0, none⟩ = some (.int .i64 0) := (blk_cell BK329.out 0).trans rfl; have hcz23_1 : w20.cell? ⟨gb329, 1, none⟩ = some (.int .i64 0) := (blk_cell BK329.out 1).trans rfl; have hfz23_0 := blk_frozen BK329.out 0; have hfz23_1 := blk_frozen BK329.out 1))
  refine bodyPost_ret (results_cell_row rfl _ _ gb329 35 #[.int .i64 t338, .int .i64 t342] (0, 0) _ rfl (by refine pe ?_; refine blk_put (cs := #[.int .i64 t338, .int .i64 0]) ?_ 1 _ rfl; refine pe ?_; refine blk_put (cs := #[.int .i64 0, .int .i64 0]) ?_ 0 _ rfl; refine pe ?_; exact BK329.out) Try.underlying35 rfl (by kernel_rfl)) rfl ?_
  exact ⟨by first | rfl | (simp [errW_none, errW_some] <;> rfl) | (simp [*, errW_none, errW_some] <;> rfl), by repeat (first | (with_reducible first | exact HI0.out | apply IsS53.alloc | apply IsS53.drewN | apply IsS53.drew | apply IsS53.set_1 | refine IsS53.far ?_ NB0_329.out _ | refine IsS53.far ?_ NB0_333.out _) | exact HI0.out), by repeat (first | (with_reducible first | exact HB.out | apply below_alloc | apply pw_below_drewN | apply below_drew1 | refine below_set ?_ (IsS53.ge HI0.out) | refine below_set ?_ GE329.out | refine below_set ?_ GE333.out) | exact HB.out), by repeat (first | (with_reducible first | exact HK.out | apply KeepBut.set_ | apply keep_drewN | apply keep_drew | apply keep_alloc | refine keep_far ?_ GW329.out _ | refine keep_far ?_ GW333.out _) | exact HK.out)⟩
 ·replace c12 := Bool.eq_false_iff.mpr c12
  subst c12
  have H1 : (some (t330, t331, t335)) = some (r1, r2, r3) := by rw [if_neg (show ¬ (false = true) by decide)] at H; exact H
  clear H
  have H := H1
  clear H1
  simp only [Option.some.injEq, Prod.mk.injEq] at H
  obtain ⟨rfl, rfl, rfl⟩ := H
  obtain ⟨hnb24, hnc24⟩ := n2 NB333_329
  obtain ⟨hnb25, hnc25⟩ := n2 NB333_0
  have hcz26_0 : w11.cell? ⟨gb333, 0, none⟩ = some (.int .i64 t330) := (blk_cell BK333.out 0).trans rfl
  have hcz26_1 : w11.cell? ⟨gb333, 1, none⟩ = some (.int .i64 t331) := (blk_cell BK333.out 1).trans rfl
  have hfz26_0 := blk_frozen BK333.out 0
  have hfz26_1 := blk_frozen BK333.out 1
  obtain ⟨hnb27, hnc27⟩ := n2 NB329_0
  have hcz28_0 : w11.cell? ⟨gb329, 0, none⟩ = some (.int .i64 0) := (blk_cell BK329.out 0).trans rfl
  have hcz28_1 : w11.cell? ⟨gb329, 1, none⟩ = some (.int .i64 0) := (blk_cell BK329.out 1).trans rfl
  have hfz28_0 := blk_frozen BK329.out 0
  have hfz28_1 := blk_frozen BK329.out 1
  go_wp2
  refine bodyPost_ret (results_cell_row rfl _ _ gb329 35 #[.int .i64 t330, .int .i64 t331] (0, 0) _ rfl (by refine pe ?_; refine blk_put (cs := #[.int .i64 t330, .int .i64 0]) ?_ 1 _ rfl; refine pe ?_; refine blk_put (cs := #[.int .i64 0, .int .i64 0]) ?_ 0 _ rfl; refine pe ?_; exact BK329.out) Try.underlying35 rfl (by kernel_rfl)) rfl ?_
  exact ⟨by first | rfl | (simp [errW_none, errW_some] <;> rfl) | (simp [*, errW_none, errW_some] <;> rfl), by repeat (first | (with_reducible first | exact HI0.out | apply IsS53.alloc | apply IsS53.drewN | apply IsS53.drew | apply IsS53.set_1 | refine IsS53.far ?_ NB0_329.out _ | refine IsS53.far ?_ NB0_333.out _) | exact HI0.out), by repeat (first | (with_reducible first | exact HB.out | apply below_alloc | apply pw_below_drewN | apply below_drew1 | refine below_set ?_ (IsS53.ge HI0.out) | refine below_set ?_ GE329.out | refine below_set ?_ GE333.out) | exact HB.out), by repeat (first | (with_reducible first | exact HK.out | apply KeepBut.set_ | apply keep_drewN | apply keep_drew | apply keep_alloc | refine keep_far ?_ GW329.out _ | refine keep_far ?_ GW333.out _) | exact HK.out)⟩

end Go.Proofs.Ytcbohbeipgcfhaa.G

/- What the tape of drawn numbers hands out: each reading comes to an end, keeps the tape in its bounds, and its numbers lie where they should. -/
namespace Go.Proofs.Ytcbohbeipgcfhaa.Mth
open Go.RowKit Go.Proofs.Ytcbohbeipgcfhaa.G Go.Proofs.Ytcbohbeipgcfhaa.Given Go.Proofs.YtcbohbeipgcfhaaW.PrintWords Go.Proofs.YtcbohbeipgcfhaaW.PrintLast Go.Proofs.YtcbohbeipgcfhaaW.PrintMore
set_option linter.unusedVariables false

/-- the tape and the place on it are in bounds -/
def TapeOk (t : List Int) (p : Int) : Prop := (t.length ≤ 600 ∧ ∀ x ∈ t, I64 x) ∧ 0 ≤ p ∧ p ≤ 600
theorem new_ok {l : List Int} (h : ∀ x ∈ l, (Lit.int .i64 x).wf = true) : ∃ t, awardingbodymake_New.f l = some (t, 0) ∧ TapeOk t 0 := by
  unfold awardingbodymake_New.f
  by_cases h6 : (l.length : Int) > 600
  · rw [if_pos h6, if_pos (by omega)]
    exact ⟨_, rfl, ⟨by rw [List.length_take]; omega, fun x hx => I64.of (h x (List.mem_of_mem_take hx))⟩, by omega⟩
  · rw [if_neg h6]
    exact ⟨_, rfl, ⟨by omega, fun x hx => I64.of (h x hx)⟩, by omega⟩
theorem raw_ok {t : List Int} {p : Int} (h : TapeOk t p) : ∃ x p', awardingbodymake_Tape_Raw.f t p = some (x, p') ∧ TapeOk t p' ∧ I64 x := by
  obtain ⟨⟨h1, h2⟩, h3, h4⟩ := h
  have e : wrap64 ((wrap64 (p + 1)) - 1) = p := by unfold wrap64; omega
  have e2 : wrap64 (p + 1) = p + 1 := by unfold wrap64; omega
  unfold awardingbodymake_Tape_Raw.f
  rw [e, e2]
  by_cases h5 : p ≥ (t.length : Int)
  · rw [if_pos h5]; exact ⟨_, _, rfl, ⟨⟨h1, h2⟩, h3, h4⟩, by unfold I64; omega⟩
  · rw [if_neg h5, if_pos h3, if_pos (by omega)]
    refine ⟨_, _, rfl, ⟨⟨h1, h2⟩, by omega, by omega⟩, ?_⟩
    have hl : p.toNat < t.length := by omega
    have e3 : rd t p = t[p.toNat] := by simp [rd, List.getElem?_eq_getElem hl]
    rw [e3]; exact h2 _ (List.getElem_mem hl)
theorem cut_ok {a n : Int} (ha : I64 a) (hn : 1 ≤ n) (hn2 : I64 n) : ∃ x, awardingbodymake_Cut.f a n = some x ∧ 0 ≤ x ∧ x < n := by
  unfold awardingbodymake_Cut.f
  rw [if_neg (by omega), if_neg (by omega)]
  have h1 := Int.tmod_lt_of_pos a (show 0 < n by omega)
  have h2 : -n < Int.tmod a n := by
    have := Int.tmod_lt_of_pos (-a) (show 0 < n by omega)
    rw [Int.neg_tmod] at this; omega
  unfold I64 at hn2
  split
  · refine ⟨_, rfl, ?_⟩; unfold wrap64; omega
  · exact ⟨_, rfl, by omega⟩
theorem next_ok {t : List Int} {p n : Int} (h : TapeOk t p) (hn : 1 ≤ n) (hn2 : I64 n) : ∃ x p', awardingbodymake_Tape_Next.f t p n = some (x, p') ∧ TapeOk t p' ∧ 0 ≤ x ∧ x < n := by
  obtain ⟨y, p', e, h', hy⟩ := raw_ok h
  obtain ⟨x, e2, hx⟩ := cut_ok hy hn hn2
  refine ⟨x, p', ?_, h', hx⟩
  unfold awardingbodymake_Tape_Next.f
  rw [e, Option.bind_some, e2]; rfl
theorem range_ok {t : List Int} {p lo hi : Int} (h : TapeOk t p) (h1 : lo ≤ hi) (h2 : -1000000 ≤ lo) (h3 : hi ≤ 1000000) : ∃ x p', awardingbodymake_Tape_Range.f t p lo hi = some (x, p') ∧ TapeOk t p' ∧ lo ≤ x ∧ x ≤ hi := by
  have e : wrap64 ((wrap64 (hi - lo)) + 1) = hi - lo + 1 := by unfold wrap64; omega
  obtain ⟨x, p', e2, h', hx⟩ := next_ok h (n := hi - lo + 1) (by omega) (by unfold I64; omega)
  refine ⟨lo + x, p', ?_, h', by omega⟩
  unfold awardingbodymake_Tape_Range.f
  rw [e, e2, Option.bind_some, show wrap64 (lo + x) = lo + x from by unfold wrap64; omega]
theorem one_ok {t : List Int} {p n : Int} (h : TapeOk t p) (hn : 1 ≤ n) (hn2 : I64 n) : ∃ b p', awardingbodymake_Tape_One.f t p n = some (b, p') ∧ TapeOk t p' := by
  obtain ⟨x, p', e2, h', hx⟩ := next_ok h hn hn2
  refine ⟨(x == (wrap64 (n - 1))), p', ?_, h'⟩
  unfold awardingbodymake_Tape_One.f
  rw [e2, Option.bind_some]
theorem pick_ok {t : List Int} {p : Int} {l : List Int} (h : TapeOk t p) (hl : 0 < l.length) (hl2 : l.length ≤ 1000000) : ∃ x p', awardingbodymake_Tape_Pick.f t p l = some (x, p') ∧ TapeOk t p' ∧ x ∈ l := by
  obtain ⟨x, p', e2, h', hx0, hx1⟩ := next_ok h (n := (l.length : Int)) (by omega) (by unfold I64; omega)
  refine ⟨rd l x, p', ?_, h', ?_⟩
  · unfold awardingbodymake_Tape_Pick.f
    rw [e2, Option.bind_some, if_pos hx0, if_pos hx1]
  · have hl : x.toNat < l.length := by omega
    have e3 : rd l x = l[x.toNat] := by simp [rd, List.getElem?_eq_getElem hl]
    rw [e3]; exact List.getElem_mem hl
theorem spoil_ok {t : List Int} {p a n : Int} (h : TapeOk t p) (hn : 1 ≤ n) (hn2 : I64 n) : ∃ x p', awardingbodymake_Tape_Spoil.f t p a n = some (x, p') ∧ TapeOk t p' := by
  obtain ⟨b, p1, e1, h1⟩ := one_ok h hn hn2
  unfold awardingbodymake_Tape_Spoil.f
  rw [if_pos (by omega), e1, Option.bind_some]
  cases b with
  | false => rw [if_neg (by simp)]; exact ⟨_, _, rfl, h1⟩
  | true =>
    rw [if_pos rfl]
    obtain ⟨x, p2, e2, h2, _⟩ := pick_ok (l := ([(-1), 0, 1, 2, 31, 32, 99, 100, 200, 201, 9999, 10000, 1000000, 1000001, 1152921504606846976, 1152921504606846977, (-1152921504606846976), 9223372036854775807, (-9223372036854775808)] : List Int)) h1 (by decide) (by decide)
    unfold awardingbodymake_Tape_Wild.f
    rw [e2, Option.bind_some, Option.bind_some]
    exact ⟨_, _, rfl, h2⟩

/-- a reduced fraction is valid -/
theorem red_ok {s : Bool} {n d : Nat} {a b : Int} (hd : 0 < d) (h : red s n d = (a, b, 0)) : okR a b ∧ a.natAbs = n / Nat.gcd n d ∧ b.natAbs = d / Nat.gcd n d := by
  unfold red at h
  have hg : 0 < Nat.gcd n d := Nat.gcd_pos_of_pos_right _ hd
  have hc := Nat.coprime_div_gcd_div_gcd hg
  have h1 : 0 < d / Nat.gcd n d := Nat.div_pos (Nat.gcd_le_right _ hd) hg
  obtain ⟨X, hX⟩ : ∃ X, n / Nat.gcd n d = X := ⟨_, rfl⟩
  obtain ⟨Y, hY⟩ : ∃ Y, d / Nat.gcd n d = Y := ⟨_, rfl⟩
  rw [hX, hY] at h hc ⊢
  rw [hY] at h1
  split at h
  · rename_i hb
    simp only [Prod.mk.injEq] at h
    obtain ⟨h2, h3, _⟩ := h
    have ea : a.natAbs = X := by rw [← h2]; split <;> omega
    have eb : b.natAbs = Y := by rw [← h3]; omega
    refine ⟨⟨?_, ?_⟩, ea, eb⟩
    · refine ⟨by omega, by omega, ?_, ?_⟩ <;> omega
    · rw [ea, eb]; exact hc
  · simp at h
theorem red_fits (s : Bool) (n d : Nat) (hn : n ≤ 1152921504606846976) (hd : d ≤ 1152921504606846976) : ∃ a b, red s n d = (a, b, 0) := by
  unfold red
  rw [if_pos ⟨Nat.le_trans (Nat.div_le_self _ _) hn, Nat.le_trans (Nat.div_le_self _ _) hd⟩]
  exact ⟨_, _, rfl⟩
theorem newR_ok {x y a b : Int} (h : newR x y = (a, b, 0)) : okR a b ∧ a.natAbs ≤ x.natAbs ∧ b.natAbs ≤ y.natAbs := by
  unfold newR at h
  split at h
  · simp at h
  · obtain ⟨h1, h2, h3⟩ := red_ok (by omega) h
    exact ⟨h1, by rw [h2]; exact Nat.div_le_self _ _, by rw [h3]; exact Nat.div_le_self _ _⟩

theorem small_ok {t : List Int} {p : Int} (h : TapeOk t p) : ∃ a b p', Ev (fun k => awardingbodymake_Tape_Small.f k t p) (a, b, p') ∧ TapeOk t p' ∧ okR a b ∧ a.natAbs ≤ 30 ∧ b.natAbs ≤ 12 := by
  obtain ⟨x, p1, e1, h1, x0, x1⟩ := range_ok (lo := -30) (hi := 30) h (by omega) (by omega) (by omega)
  obtain ⟨y, p2, e2, h2, y0, y1⟩ := range_ok (lo := 1) (hi := 12) h1 (by omega) (by omega) (by omega)
  have hr : ∃ a b, newR x y = (a, b, 0) := by unfold newR; rw [if_neg (by omega)]; exact red_fits _ _ _ (by omega) (by omega)
  obtain ⟨a, b, hr⟩ := hr
  obtain ⟨o1, o2, o3⟩ := newR_ok hr
  refine ⟨a, b, p2, ?_, h2, o1, by omega, by omega⟩
  refine Ev.congr (fun k => by unfold awardingbodymake_Tape_Small.f; rw [e1, Option.bind_some, e2, Option.bind_some]) ?_
  have := fnew_ev (a := x) (b := y) (by unfold I64; omega) (by unfold I64; omega)
  rw [hr] at this
  exact Ev.bind (f := fun _ (t : Int × Int × Int) => some (t.1, t.2.1, p2)) this (Ev.now _)

theorem all_i64 {l : List Int} (h : l.all (fun x => decide (-9223372036854775808 ≤ x) && decide (x ≤ 9223372036854775807)) = true) {x : Int} (hx : x ∈ l) : I64 x := by
  have := List.all_eq_true.1 h x hx
  simpa [I64] using this
theorem okR_one : okR 1 1 := by decide
theorem ratio_j_ok {t : List Int} {p x y : Int} (h : TapeOk t p) (hx : I64 x) (hy : I64 y) : ∃ a b p', Ev (fun k => awardingbodymake_Tape_Ratio.j0 k x y t p) (a, b, p') ∧ TapeOk t p' ∧ okR a b := by
  have key (y2 : Int) (hy2 : I64 y2) (p2 : Int) (h2 : TapeOk t p2) : ∃ a b p', Ev (fun k => (awardingbodyref01_New.f k x y2).bind fun bt => (if bt.2.2 = 0 then (some (bt.1, bt.2.1, p2)) else (some (1, 1, p2)))) (a, b, p') ∧ TapeOk t p' ∧ okR a b := by
    have e := fnew_ev hx hy2
    obtain ⟨u, v, w, hn⟩ : ∃ u v w, newR x y2 = (u, v, w) := ⟨_, _, _, rfl⟩
    rw [hn] at e
    by_cases hw : w = 0
    · subst hw
      exact ⟨u, v, p2, Ev.bind (f := fun _ (bt : Int × Int × Int) => (if bt.2.2 = 0 then (some (bt.1, bt.2.1, p2)) else (some (1, 1, p2)))) e (Ev.congr (fun k => by rw [if_pos rfl]) (Ev.now _)), h2, (newR_ok hn).1⟩
    · exact ⟨1, 1, p2, Ev.bind (f := fun _ (bt : Int × Int × Int) => (if bt.2.2 = 0 then (some (bt.1, bt.2.1, p2)) else (some (1, 1, p2)))) e (Ev.congr (fun k => by rw [if_neg hw]) (Ev.now _)), h2, okR_one⟩
  obtain ⟨b, p1, e1, h1⟩ := one_ok (n := 4) h (by omega) (by unfold I64; omega)
  cases b with
  | false =>
    obtain ⟨a, b, p', e, r⟩ := key y hy p1 h1
    refine ⟨a, b, p', Ev.step (fun k => ?_) e, r⟩
    simp only [awardingbodymake_Tape_Ratio.j0]
    rw [e1, Option.bind_some, if_neg (by simp)]
  | true =>
    obtain ⟨z, p2, e2, h2, hz⟩ := pick_ok (l := ([1152921504606846976, 1152921504606846975, 576460752303423488, 1073741824, 1000000000, 1000000007, 432345564227567616, 1152921504606846869] : List Int)) h1 (by decide) (by decide)
    obtain ⟨a, b, p', e, r⟩ := key z (all_i64 (by decide) hz) p2 h2
    refine ⟨a, b, p', Ev.step (fun k => ?_) e, r⟩
    simp only [awardingbodymake_Tape_Ratio.j0]
    rw [e1, Option.bind_some, if_pos rfl, e2, Option.bind_some]
theorem ratio_ok {t : List Int} {p : Int} (h : TapeOk t p) : ∃ a b p', Ev (fun k => awardingbodymake_Tape_Ratio.f k t p) (a, b, p') ∧ TapeOk t p' ∧ okR a b := by
  obtain ⟨x, p1, e1, h1, x0, x1⟩ := range_ok (lo := -9) (hi := 9) h (by omega) (by omega) (by omega)
  obtain ⟨y, p2, e2, h2, y0, y1⟩ := range_ok (lo := 1) (hi := 9) h1 (by omega) (by omega) (by omega)
  obtain ⟨b, p3, e3, h3⟩ := one_ok (n := 4) h2 (by omega) (by unfold I64; omega)
  have hy : I64 y := by unfold I64; omega
  cases b with
  | false =>
    obtain ⟨a, b, p', e, r⟩ := ratio_j_ok (x := x) (y := y) h3 (by unfold I64; omega) hy
    refine ⟨a, b, p', Ev.congr (fun k => ?_) e, r⟩
    unfold awardingbodymake_Tape_Ratio.f
    rw [e1, Option.bind_some, e2, Option.bind_some, e3, Option.bind_some, if_neg (by simp)]
  | true =>
    obtain ⟨z, p4, e4, h4, hz⟩ := pick_ok (l := ([1152921504606846976, 1152921504606846975, (-1152921504606846976), 576460752303423488, 1073741824, 3486784401, (-1000000007), 1152921504606846883] : List Int)) h3 (by decide) (by decide)
    obtain ⟨a, b, p', e, r⟩ := ratio_j_ok (x := z) (y := y) h4 (all_i64 (by decide) hz) hy
    refine ⟨a, b, p', Ev.congr (fun k => ?_) e, r⟩
    unfold awardingbodymake_Tape_Ratio.f
    rw [e1, Option.bind_some, e2, Option.bind_some, e3, Option.bind_some, if_pos rfl, e4, Option.bind_some]
theorem loose_ok {t : List Int} {p : Int} (h : TapeOk t p) : ∃ a b p', Ev (fun k => awardingbodymake_Tape_Loose.f k t p) (a, b, p') ∧ TapeOk t p' := by
  obtain ⟨a, b, p1, e1, h1, _⟩ := ratio_ok h
  obtain ⟨c, p2, e2, h2⟩ := one_ok (n := 3) h1 (by omega) (by unfold I64; omega)
  cases c with
  | false =>
    refine ⟨a, b, p2, Ev.congr (fun k => by unfold awardingbodymake_Tape_Loose.f; rfl) (Ev.bind e1 (Ev.congr (fun k => ?_) (Ev.now _))), h2⟩
    rw [e2, Option.bind_some, if_neg (by simp)]
  | true =>
    obtain ⟨x, p3, e3, h3, x0, x1⟩ := range_ok (lo := -8) (hi := 8) h2 (by omega) (by omega) (by omega)
    obtain ⟨u, p4, e4, h4⟩ := spoil_ok (a := x) (n := 3) h3 (by omega) (by unfold I64; omega)
    obtain ⟨y, p5, e5, h5, y0, y1⟩ := range_ok (lo := -1) (hi := 8) h4 (by omega) (by omega) (by omega)
    obtain ⟨v, p6, e6, h6⟩ := spoil_ok (a := y) (n := 3) h5 (by omega) (by unfold I64; omega)
    refine ⟨u, v, p6, Ev.congr (fun k => by unfold awardingbodymake_Tape_Loose.f; rfl) (Ev.bind e1 (Ev.congr (fun k => ?_) (Ev.now _))), h6⟩
    rw [e2, Option.bind_some, if_pos rfl, e3, Option.bind_some, e4, Option.bind_some, e5, Option.bind_some, e6, Option.bind_some]
end Go.Proofs.Ytcbohbeipgcfhaa.Mth
