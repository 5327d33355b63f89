/- Reducing a fraction to lowest terms: the program's and the reference's functions come to one plain function ('red'); New and Valid of both sides are equal, for all numbers. -/
import Derived.Test.YtcbohbeipgcfhaaMathC
import Derived.Test.YtcbohbeipgcfhaaGf48
import Derived.Test.YtcbohbeipgcfhaaGf50
import Derived.Test.YtcbohbeipgcfhaaGf22
import Derived.Test.YtcbohbeipgcfhaaGf23
import Derived.Test.YtcbohbeipgcfhaaGf24
import Derived.Test.YtcbohbeipgcfhaaGf25
namespace Go.Proofs.Ytcbohbeipgcfhaa.Mth
open Go.RowKit Go.Proofs.Ytcbohbeipgcfhaa.G Go.Proofs.Ytcbohbeipgcfhaa.Given Go.Proofs.YtcbohbeipgcfhaaW.PrintWords Go.Proofs.YtcbohbeipgcfhaaW.PrintLast Go.Proofs.YtcbohbeipgcfhaaW.PrintMore
set_option linter.unusedVariables false

/-- an int of 64 bits -/
def I64 (a : Int) : Prop := -9223372036854775808 ≤ a ∧ a ≤ 9223372036854775807
theorem I64.of {a : Int} (h : (Lit.int .i64 a).wf = true) : I64 a := by
  simp only [Lit.wf, IntKind.min, IntKind.max, IntKind.signed, IntKind.bits, Bool.and_eq_true, decide_eq_true_eq, if_true] at h
  unfold I64; omega

/-- The fraction n / d (d not 0) with a sign, in lowest terms, or the error. -/
def red (neg : Bool) (n d : Nat) : Int × Int × Int :=
  if n / Nat.gcd n d ≤ 1152921504606846976 ∧ d / Nat.gcd n d ≤ 1152921504606846976 then
    ((if neg then -((n / Nat.gcd n d : Nat) : Int) else ((n / Nat.gcd n d : Nat) : Int)), ((d / Nat.gcd n d : Nat) : Int), 0)
  else (0, 0, 6)

theorem reduce_ev (neg : Bool) (n d : Nat) (hn : n < 340282366920938463463374607431768211456) (hd : d < 340282366920938463463374607431768211456) (hd0 : 0 < d) :
    Ev (fun k => awardingbodyref01_Reduce.f k neg (hi n) (lo n) (hi d) (lo d)) (red neg n d) := by
  have hg0 : 0 < Nat.gcd n d := Nat.gcd_pos_of_pos_right _ hd0
  have hgd : Nat.gcd n d ≤ d := Nat.gcd_le_right _ hd0
  refine Ev.congr (fun k => by unfold awardingbodyref01_Reduce.f; rfl) ?_
  refine Ev.bind (divisor_ev d n hn hd) ?_
  refine Ev.bind (divide_ev n (Nat.gcd n d) hn (by omega) hg0) ?_
  refine Ev.bind (divide_ev d (Nat.gcd n d) hd (by omega) hg0) ?_
  have hX := Nat.div_le_self n (Nat.gcd n d)
  have hY := Nat.div_le_self d (Nat.gcd n d)
  unfold red
  obtain ⟨X, hXe⟩ : ∃ X, n / Nat.gcd n d = X := ⟨_, rfl⟩
  obtain ⟨Y, hYe⟩ : ∃ Y, d / Nat.gcd n d = Y := ⟨_, rfl⟩
  rw [hXe] at hX
  rw [hYe] at hY
  simp only [hXe, hYe]
  have key : Ev (fun k => awardingbodyref01_Reduce.j0 k neg (decide (¬ (X ≤ 1152921504606846976 ∧ Y ≤ 1152921504606846976))) (hi X) (lo X) (hi Y) (lo Y)) (if X ≤ 1152921504606846976 ∧ Y ≤ 1152921504606846976 then ((if neg then -(X : Int) else (X : Int)), (Y : Int), (0 : Int)) else (0, 0, 6)) := by
    refine ev_some (fun k => ?_)
    simp only [awardingbodyref01_Reduce.j0, decide_eq_true_eq]
    by_cases h : X ≤ 1152921504606846976 ∧ Y ≤ 1152921504606846976
    · rw [if_neg (by simpa using h), if_pos h]
      have e1 : wrap64 (lo X) = (X : Int) := by unfold wrap64 lo; omega
      have e2 : wrap64 (lo Y) = (Y : Int) := by unfold wrap64 lo; omega
      have e3 : wrap64 (-(X : Int)) = -(X : Int) := by unfold wrap64; omega
      rw [e1, e2, e3]
      cases neg <;> rfl
    · rw [if_pos (by simpa using h), if_neg h]
  refine Ev.congr (fun k => ?_) key
  by_cases h1 : hi X > 0
  · rw [if_pos h1]; congr 1; symm; rw [decide_eq_true_eq]; unfold hi at h1; omega
  · rw [if_neg h1]
    by_cases h2 : hi Y > 0
    · rw [if_pos h2]; congr 1; symm; rw [decide_eq_true_eq]; unfold hi at h2; omega
    · rw [if_neg h2]
      by_cases h3 : lo X > 1152921504606846976
      · rw [if_pos h3]; congr 1; symm; rw [decide_eq_true_eq]; unfold lo at h3; omega
      · rw [if_neg h3]; congr 1; rw [decide_eq_decide]; unfold hi at h1 h2; unfold lo at h3 ⊢; omega

theorem over_ev (neg : Bool) (n g : Nat) (hn : n < 340282366920938463463374607431768211456) (hg : g < 18446744073709551616) (hg0 : 0 < g) :
    Ev (fun k => ratio_wide_over.f k neg (hi n) (lo n) g) (neg, hi (n / g), lo (n / g)) := by
  have hd := div64_ev ((n / 18446744073709551616) % g) (n % 18446744073709551616) g hg (Nat.mod_lt _ (by decide)) (Nat.mod_lt _ hg0)
  have e0 : n / g = n / 18446744073709551616 / g * 18446744073709551616 + ((n / 18446744073709551616) % g * 18446744073709551616 + n % 18446744073709551616) / g := by
    have h1 := Nat.div_add_mod n 18446744073709551616
    have h2 := Nat.div_add_mod (n / 18446744073709551616) g
    have h3 : n = g * (n / 18446744073709551616 / g * 18446744073709551616) + ((n / 18446744073709551616) % g * 18446744073709551616 + n % 18446744073709551616) := by
      rw [← Nat.mul_assoc]
      obtain ⟨A, hA⟩ : ∃ A, g * (n / 18446744073709551616 / g) = A := ⟨_, rfl⟩
      obtain ⟨B, hB⟩ : ∃ B, n / 18446744073709551616 % g = B := ⟨_, rfl⟩
      rw [hA, hB] at h2 ⊢
      omega
    conv => lhs; rw [h3]
    rw [Nat.mul_add_div hg0]
  have hlt : ((n / 18446744073709551616) % g * 18446744073709551616 + n % 18446744073709551616) / g < 18446744073709551616 := by
    rw [Nat.div_lt_iff_lt_mul hg0]
    have h1 := Nat.mod_lt (n / 18446744073709551616) hg0
    have h2 := Nat.mod_lt n (show 0 < 18446744073709551616 by decide)
    have h3 : (n / 18446744073709551616 % g + 1) * 18446744073709551616 ≤ g * 18446744073709551616 := Nat.mul_le_mul_right _ h1
    rw [Nat.mul_comm 18446744073709551616 g]
    omega
  have hq : n / 18446744073709551616 / g ≤ n / 18446744073709551616 := Nat.div_le_self _ _
  obtain ⟨A, hA⟩ : ∃ A, n / 18446744073709551616 / g = A := ⟨_, rfl⟩
  obtain ⟨B, hB⟩ : ∃ B, ((n / 18446744073709551616) % g * 18446744073709551616 + n % 18446744073709551616) / g = B := ⟨_, rfl⟩
  rw [hA, hB] at e0
  rw [hB] at hlt hd
  rw [hA] at hq
  have a1 : hi (n / g) = (A : Int) := by unfold hi; omega
  have a2 : lo (n / g) = (B : Int) := by unfold lo; omega
  rw [a1, a2]
  refine Ev.congr (f := fun k => (bits_Div64.f k ((n / 18446744073709551616 % g : Nat) : Int) ((n % 18446744073709551616 : Nat) : Int) (g : Int)).bind fun b => some (neg, (A : Int), b.1)) (fun k => ?_) ?_
  · unfold ratio_wide_over.f hi lo
    rw [if_neg (by omega)]
    have e4 : Int.tmod (((n / 18446744073709551616 : Nat) : Int)) (g : Int) = ((n / 18446744073709551616 % g : Nat) : Int) := rfl
    have e5 : Int.tdiv (((n / 18446744073709551616 : Nat) : Int)) (g : Int) = ((n / 18446744073709551616 / g : Nat) : Int) := rfl
    rw [e4, e5, hA]
    rw [show IntKind.u64.wrap (A : Int) = (A : Int) from by rw [wu]; omega]
  · obtain ⟨K, hK⟩ := hd
    refine ⟨K, fun k hk => ?_⟩
    have hk2 := hK k hk
    dsimp only at hk2 ⊢
    rw [hk2]; rfl

theorem lowest_ev (neg : Bool) (n d : Nat) (hn : n < 340282366920938463463374607431768211456) (hd : d < 18446744073709551616) (hd0 : 0 < d) :
    Ev (fun k => ratio_lowest.f k neg (hi n) (lo n) d) (red neg n d) := by
  have hg0 : 0 < Nat.gcd n d := Nat.gcd_pos_of_pos_right _ hd0
  have hgd : Nat.gcd n d ≤ d := Nat.gcd_le_right _ hd0
  have hrem : (n / 18446744073709551616) * 18446744073709551616 + n % 18446744073709551616 = n := by omega
  refine Ev.congr (fun k => by unfold ratio_lowest.f; rfl) ?_
  have r1 := rem64_ev (n / 18446744073709551616) (n % 18446744073709551616) d hd (Nat.mod_lt _ (by decide)) hd0
  rw [hrem] at r1
  refine Ev.bind r1 ?_
  have r2 := gcd_ev (n % d) d
  rw [show Nat.gcd d (n % d) = Nat.gcd n d from by rw [Nat.gcd_comm n d, Nat.gcd_rec d n, Nat.gcd_comm]] at r2
  refine Ev.bind r2 ?_
  refine Ev.bind (over_ev neg n (Nat.gcd n d) hn (by omega) hg0) ?_
  have hX := Nat.div_le_self n (Nat.gcd n d)
  have hY := Nat.div_le_self d (Nat.gcd n d)
  have e5 : Int.tdiv (d : Int) ((Nat.gcd n d : Nat) : Int) = ((d / Nat.gcd n d : Nat) : Int) := rfl
  unfold red
  rw [e5]
  obtain ⟨X, hXe⟩ : ∃ X, n / Nat.gcd n d = X := ⟨_, rfl⟩
  obtain ⟨Y, hYe⟩ : ∃ Y, d / Nat.gcd n d = Y := ⟨_, rfl⟩
  rw [hXe] at hX
  rw [hYe] at hY
  simp only [hXe, hYe]
  rw [show IntKind.u64.wrap (Y : Int) = (Y : Int) from by rw [wu]; omega]
  have key : Ev (fun k => ratio_lowest.j0 k Y (decide (¬ (X ≤ 1152921504606846976 ∧ Y ≤ 1152921504606846976))) neg (hi X) (lo X)) (if X ≤ 1152921504606846976 ∧ Y ≤ 1152921504606846976 then ((if neg then -(X : Int) else (X : Int)), (Y : Int), (0 : Int)) else (0, 0, 6)) := by
    refine ev_some (fun k => ?_)
    simp only [ratio_lowest.j0, decide_eq_true_eq]
    by_cases h : X ≤ 1152921504606846976 ∧ Y ≤ 1152921504606846976
    · rw [if_neg (by simpa using h), if_pos h]
      have e1 : wrap64 (lo X) = (X : Int) := by unfold wrap64 lo; omega
      have e2 : wrap64 (Y : Int) = (Y : Int) := by unfold wrap64; omega
      have e3 : wrap64 (-(X : Int)) = -(X : Int) := by unfold wrap64; omega
      rw [e1, e2, e3]
      cases neg <;> rfl
    · rw [if_pos (by simpa using h), if_neg h]
  refine Ev.congr (fun k => ?_) key
  rw [if_neg (by omega)]
  by_cases h1 : hi X = 0
  · rw [if_pos h1]
    by_cases h3 : lo X > 1152921504606846976
    · rw [if_pos h3]; congr 1; symm; rw [decide_eq_true_eq]; unfold lo at h3; omega
    · rw [if_neg h3]; congr 1; rw [decide_eq_decide]; unfold hi at h1; unfold lo at h3; omega
  · rw [if_neg h1]; congr 1; symm; rw [decide_eq_true_eq]; unfold hi at h1; omega

theorem abs_eq {a : Int} (h : I64 a) : ratio_abs.f a = some (a.natAbs : Int) := by
  unfold ratio_abs.f I64 at *
  split <;> simp only [Option.some.injEq, wu] <;> (try unfold wrap64) <;> omega
theorem size_eq {a : Int} (h : I64 a) : awardingbodyref01_Size.f a = some (a.natAbs : Int) := by
  unfold awardingbodyref01_Size.f I64 at *
  split <;> simp only [Option.some.injEq, wu] <;> (try unfold wrap64) <;> omega

/-- New's result -/
def newR (a b : Int) : Int × Int × Int := if b = 0 then (0, 0, 2) else red ((decide (a < 0)) != (decide (b < 0))) a.natAbs b.natAbs
theorem abs_lt {a : Int} (h : I64 a) : a.natAbs < 18446744073709551616 := by unfold I64 at h; omega
theorem hi_small {n : Nat} (h : n < 18446744073709551616) : hi n = 0 := by unfold hi; omega
theorem lo_small {n : Nat} (h : n < 18446744073709551616) : lo n = (n : Int) := by unfold lo; omega

theorem rnew_ev {a b : Int} (ha : I64 a) (hb : I64 b) : Ev (fun k => ratio_New.f k a b) (newR a b) := by
  unfold newR
  by_cases h : b = 0
  · rw [if_pos h]; refine Ev.congr (fun k => by unfold ratio_New.f; rw [if_pos h]) (Ev.now _)
  · rw [if_neg h]
    have := lowest_ev ((decide (a < 0)) != (decide (b < 0))) a.natAbs b.natAbs (by have := abs_lt ha; omega) (abs_lt hb) (by omega)
    rw [hi_small (abs_lt ha), lo_small (abs_lt ha)] at this
    refine Ev.congr (fun k => ?_) (Ev.bind (f := fun _ (t : Int × Int × Int) => some (t.1, t.2.1, t.2.2)) this (Ev.now _))
    unfold ratio_New.f
    rw [if_neg h, abs_eq ha, abs_eq hb, Option.bind_some, Option.bind_some]
theorem fnew_ev {a b : Int} (ha : I64 a) (hb : I64 b) : Ev (fun k => awardingbodyref01_New.f k a b) (newR a b) := by
  unfold newR
  by_cases h : b = 0
  · rw [if_pos h]; refine Ev.congr (fun k => by unfold awardingbodyref01_New.f; rw [if_pos h]) (Ev.now _)
  · rw [if_neg h]
    have := reduce_ev ((decide (a < 0)) != (decide (b < 0))) a.natAbs b.natAbs (by have := abs_lt ha; omega) (by have := abs_lt hb; omega) (by omega)
    rw [hi_small (abs_lt ha), lo_small (abs_lt ha), hi_small (abs_lt hb), lo_small (abs_lt hb)] at this
    refine Ev.congr (fun k => ?_) (Ev.bind (f := fun _ (t : Int × Int × Int) => some (t.1, t.2.1, t.2.2)) this (Ev.now _))
    unfold awardingbodyref01_New.f
    rw [if_neg h, size_eq ha, size_eq hb, Option.bind_some, Option.bind_some]

/-- which fractions are valid -/
def okR (a b : Int) : Prop := (1 ≤ b ∧ b ≤ 1152921504606846976 ∧ -1152921504606846976 ≤ a ∧ a ≤ 1152921504606846976) ∧ Nat.gcd a.natAbs b.natAbs = 1
instance (a b : Int) : Decidable (okR a b) := by unfold okR; infer_instance
theorem rvalid_ev (a b : Int) : Ev (fun k => ratio_Valid.f k a b) (decide (okR a b)) := by
  by_cases h : 1 ≤ b ∧ b ≤ 1152921504606846976 ∧ -1152921504606846976 ≤ a ∧ a ≤ 1152921504606846976
  · have e : decide (okR a b) = (((Nat.gcd a.natAbs b.natAbs : Nat) : Int) == 1) := by
      rw [Bool.eq_iff_iff, decide_eq_true_eq, beq_iff_eq]; unfold okR; omega
    rw [e]
    have ha : I64 a := by unfold I64; omega
    refine Ev.congr (fun k => ?_) (Ev.bind (f := fun _ t => some (t == 1)) (gcd_ev b.natAbs a.natAbs) (Ev.now _))
    unfold ratio_Valid.f
    rw [if_pos h.1, if_pos h.2.1, if_pos h.2.2.1, if_pos h.2.2.2, abs_eq ha, Option.bind_some]
    rw [show IntKind.u64.wrap b = (b.natAbs : Int) from by rw [wu]; omega]
  · have e : decide (okR a b) = false := by rw [decide_eq_false_iff_not]; unfold okR; exact fun c => h c.1
    rw [e]
    refine Ev.congr (fun k => ?_) (Ev.now _)
    unfold ratio_Valid.f
    by_cases h1 : b ≥ 1
    · rw [if_pos h1]
      by_cases h2 : b ≤ 1152921504606846976
      · rw [if_pos h2]
        by_cases h3 : a ≥ -1152921504606846976
        · rw [if_pos h3, if_neg (fun h4 => h ⟨h1, h2, h3, h4⟩)]
        · rw [if_neg h3]
      · rw [if_neg h2]
    · rw [if_neg h1]
theorem fvalid_ev (a b : Int) : Ev (fun k => awardingbodyref01_Valid.f k a b) (decide (okR a b)) := by
  have hf : ¬ (1 ≤ b ∧ b ≤ 1152921504606846976 ∧ -1152921504606846976 ≤ a ∧ a ≤ 1152921504606846976) → Ev (fun k => awardingbodyref01_Valid.j0 k true a b) (decide (okR a b)) := by
    intro h
    have e : decide (okR a b) = false := by rw [decide_eq_false_iff_not]; unfold okR; exact fun c => h c.1
    rw [e]
    refine ev_some (fun k => ?_)
    simp only [awardingbodyref01_Valid.j0]
    rw [if_pos trivial]
  have ht : (1 ≤ b ∧ b ≤ 1152921504606846976 ∧ -1152921504606846976 ≤ a ∧ a ≤ 1152921504606846976) → Ev (fun k => awardingbodyref01_Valid.j0 k false a b) (decide (okR a b)) := by
    intro h
    have ha : I64 a := by unfold I64; omega
    have hb : I64 b := by unfold I64; omega
    have hd := divisor_ev b.natAbs a.natAbs (by have := abs_lt ha; omega) (by have := abs_lt hb; omega)
    have hg : Nat.gcd a.natAbs b.natAbs < 18446744073709551616 := by
      have := Nat.gcd_le_right a.natAbs (show 0 < b.natAbs by omega); omega
    rw [hi_small (abs_lt ha), lo_small (abs_lt ha), hi_small (abs_lt hb), lo_small (abs_lt hb), hi_small hg, lo_small hg] at hd
    have e : decide (okR a b) = (((0 : Int) == 0) && (((Nat.gcd a.natAbs b.natAbs : Nat) : Int) == 1)) := by
      rw [Bool.eq_iff_iff, decide_eq_true_eq]; unfold okR; simp; omega
    rw [e]
    refine Ev.step (fun k => ?_) (Ev.bind (f := fun _ (t : Int × Int) => some (t.1 == 0 && (t.2 == 1))) hd (Ev.now _))
    simp only [awardingbodyref01_Valid.j0]
    rw [if_neg (by decide), size_eq ha, size_eq hb, Option.bind_some, Option.bind_some]
  by_cases h1 : b < 1
  · exact Ev.congr (fun k => by unfold awardingbodyref01_Valid.f; rw [if_pos h1]) (hf (by omega))
  · by_cases h2 : b > 1152921504606846976
    · exact Ev.congr (fun k => by unfold awardingbodyref01_Valid.f; rw [if_neg h1, if_pos h2]) (hf (by omega))
    · by_cases h3 : a < -1152921504606846976
      · exact Ev.congr (fun k => by unfold awardingbodyref01_Valid.f; rw [if_neg h1, if_neg h2, if_pos h3]) (hf (by omega))
      · by_cases h4 : a > 1152921504606846976
        · exact Ev.congr (fun k => by unfold awardingbodyref01_Valid.f; rw [if_neg h1, if_neg h2, if_neg h3, decide_eq_true h4]) (hf (by omega))
        · exact Ev.congr (fun k => by unfold awardingbodyref01_Valid.f; rw [if_neg h1, if_neg h2, if_neg h3, decide_eq_false h4]) (ht (by omega))
end Go.Proofs.Ytcbohbeipgcfhaa.Mth
