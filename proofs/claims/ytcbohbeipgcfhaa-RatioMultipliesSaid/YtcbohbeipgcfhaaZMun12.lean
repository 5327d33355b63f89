/- Texts of this claim laid together: Gf69, MathC, MathD, Gf59. -/
import Derived.Test.YtcbohbeipgcfhaaShortC
import Derived.Test.YtcbohbeipgcfhaaG0
import Derived.Test.YtcbohbeipgcfhaaZMun11
import Derived.Test.YtcbohbeipgcfhaaZMun1
import Derived.Test.YtcbohbeipgcfhaaZMun5
import Derived.Test.YtcbohbeipgcfhaaZMun2
import Derived.Test.YtcbohbeipgcfhaaZMun7
import Derived.Test.YtcbohbeipgcfhaaZMun9
-- Printed by gp.py (a program of this session's own, over the kit's printer) out of the translation; Lean checks it.
namespace Go.Proofs.Ytcbohbeipgcfhaa.G
open Go.Proofs.Ytcbohbeipgcfhaa.Given Go.Proofs.Ytcbohbeipgcfhaa.Short
open Go.RowKit Go.Proofs.YtcbohbeipgcfhaaW.PrintWords Go.Proofs.YtcbohbeipgcfhaaW.PrintLast Go.Proofs.YtcbohbeipgcfhaaW.PrintMore
attribute [local go_sem] max2_int min2_int max_two min_two max_three min_three max_four min_four   -- for this text's walks alone
set_option linter.unusedVariables false
set_option linter.unusedSimpArgs false

/-! ### r1_Plus: function 69 -/
def r1_Plus.f (a0_0 : Int) (a0_1 : Int) (a1_0 : Int) (a1_1 : Int) : Option (Int × Int) := (bits_Add64.f a0_1 a1_1 0).bind fun bt461 => ((bits_Add64.f a0_0 a1_0 bt461.2).bind fun bt463 => (some (bt463.1, bt461.1)))
set_option maxHeartbeats 8000000 in
set_option maxRecDepth 100000 in
theorem r1_Plus.calls (a0_0 : Int) (a0_1 : Int) (a1_0 : Int) (a1_1 : Int) (r1 : Int) (r2 : Int) (w : World) (h : r1_Plus.f a0_0 a0_1 a1_0 a1_1 = some (r1, r2)) :
  Calls Try.prog 69 #[.agg #[.int .u64 a0_0, .int .u64 a0_1], .agg #[.int .u64 a1_0, .int .u64 a1_1]] w fun e w' => e = .returned (.agg #[.int .u64 r1, .int .u64 r2]) ∧ Below w.heap.size w w' := by
 have hu61 := Try.underlying61; have HB := Aside0.mk (Below.refl w.heap.size w); have H : ((bits_Add64.f a0_1 a1_1 0).bind fun bt461 => ((bits_Add64.f a0_0 a1_0 bt461.2).bind fun bt463 => (some (bt463.1, bt461.1)))) = some (r1, r2) := h; clear h; replace H := Option.bind_eq_some_iff.mp H; obtain ⟨⟨t461, t462⟩, A30, H⟩ := H; (try dsimp only at H); have A3 := Aside0.mk A30; clear A30; replace H := Option.bind_eq_some_iff.mp H; obtain ⟨⟨t463, t464⟩, A40, H⟩ := H; (try dsimp only at H); have A4 := Aside0.mk A40; clear A40; simp only [Option.some.injEq, Prod.mk.injEq] at H; obtain ⟨rfl, rfl⟩ := H; (go_enter Try.func69, Try.ntmps69); (go_wp2_with (first | ((with_reducible refine gate_dst (N := 2) rfl ?_); refine bx (N := 2) (cs := #[.int .u64 a0_0, .int .u64 a0_1]) (t := 61) ?_; intro gb458 hg w5 hbox hb; have BK458 := Aside0.mk (hbox); have GW458 := gs HB hg; have GE458 := gs HB hg; replace HB := wb HB hb; clear hb hbox hg) | ((with_reducible refine gate_dst (N := 3) rfl ?_); refine bx (N := 3) (cs := #[.int .u64 a1_0, .int .u64 a1_1]) (t := 61) ?_; intro gb459 hg w6 hbox hb; have BK459 := Aside0.mk (hbox); have GW459 := gs HB hg; have GE459 := gs HB hg; have NB458_459 := nl BK458 hg; have NB459_458 := nr BK458 hg; replace BK458 := kb BK458 hb; replace HB := wb HB hb; clear hb hbox hg) | ((with_reducible refine gate_dst (N := 4) rfl ?_); refine bx (N := 4) (cs := #[.int .u64 0, .int .u64 0]) (t := 61) ?_; intro gb460 hg w7 hbox hb; have BK460 := Aside0.mk (hbox); have GW460 := gs HB hg; have GE460 := gs HB hg; have NB458_460 := nl BK458 hg; have NB460_458 := nr BK458 hg; have NB459_460 := nl BK459 hg; have NB460_459 := nr BK459 hg; replace BK458 := kb BK458 hb; replace BK459 := kb BK459 hb; replace HB := wb HB hb; clear hb hbox hg; obtain ⟨hnb8, hnc8⟩ := n2 NB458_459; obtain ⟨hnb9, hnc9⟩ := n2 NB458_460; have hcz10_0 : w7.cell? ⟨gb458, 0, none⟩ = some (.int .u64 a0_0) := bc BK458 0; have hcz10_1 : w7.cell? ⟨gb458, 1, none⟩ = some (.int .u64 a0_1) := bc BK458 1; have hfz10_0 := blk_frozen BK458.out 0; have hfz10_1 := blk_frozen BK458.out 1; obtain ⟨hnb11, hnc11⟩ := n2 NB459_460; have hcz12_0 : w7.cell? ⟨gb459, 0, none⟩ = some (.int .u64 a1_0) := bc BK459 0; have hcz12_1 : w7.cell? ⟨gb459, 1, none⟩ = some (.int .u64 a1_1) := bc BK459 1; have hfz12_0 := blk_frozen BK459.out 0; have hfz12_1 := blk_frozen BK459.out 1) | ((with_reducible refine gate_callee (f := 73) rfl ?_); refine gx (some 14) Try.func73 #[.int .u64 a0_1, .int .u64 a1_1, .int .u64 0] ?_; (with_reducible refine (bits_Add64.calls a0_1 a1_1 0 t461 t462 _ A3.out).mono ?_); rintro e w13 ⟨rfl, hb⟩; refine ⟨_, rfl, ?_⟩; replace BK458 := kb BK458 hb; replace BK459 := kb BK459 hb; replace BK460 := kb BK460 hb; replace HB := wb HB hb; (try clear hb); (try clear hb2); (try clear hk); (try clear hi); have hcz14_0 : w13.cell? ⟨gb458, 0, none⟩ = some (.int .u64 a0_0) := bc BK458 0; have hcz14_1 : w13.cell? ⟨gb458, 1, none⟩ = some (.int .u64 a0_1) := bc BK458 1; have hfz14_0 := blk_frozen BK458.out 0; have hfz14_1 := blk_frozen BK458.out 1; have hcz15_0 : w13.cell? ⟨gb459, 0, none⟩ = some (.int .u64 a1_0) := bc BK459 0; have hcz15_1 : w13.cell? ⟨gb459, 1, none⟩ = some (.int .u64 a1_1) := bc BK459 1; have hfz15_0 := blk_frozen BK459.out 0; have hfz15_1 := blk_frozen BK459.out 1) | ((with_reducible refine gate_callee (f := 73) rfl ?_); refine gx (some 23) Try.func73 #[.int .u64 a0_0, .int .u64 a1_0, .int .u64 t462] ?_; (with_reducible refine (bits_Add64.calls a0_0 a1_0 t462 t463 t464 _ A4.out).mono ?_); rintro e w16 ⟨rfl, hb⟩; refine ⟨_, rfl, ?_⟩; replace BK458 := kb BK458 hb; replace BK459 := kb BK459 hb; replace BK460 := kb BK460 hb; replace HB := wb HB hb; (try clear hb); (try clear hb2); (try clear hk); (try clear hi); have hcz17_0 : w16.cell? ⟨gb460, 0, none⟩ = some (.int .u64 0) := bc BK460 0; have hcz17_1 : w16.cell? ⟨gb460, 1, none⟩ = some (.int .u64 0) := bc BK460 1; have hfz17_0 := blk_frozen BK460.out 0; have hfz17_1 := blk_frozen BK460.out 1))); refine bodyPost_ret (results_cell_row rfl _ _ gb460 61 #[.int .u64 t463, .int .u64 t461] (0, 0) _ rfl (by refine pe ?_; refine blk_put (cs := #[.int .u64 t463, .int .u64 0]) ?_ 1 _ rfl; refine pe ?_; refine blk_put (cs := #[.int .u64 0, .int .u64 0]) ?_ 0 _ rfl; refine pe ?_; exact BK460.out) Try.underlying61 rfl (by kernel_rfl)) rfl ?_; exact ⟨by first | rfl | (simp [errW_none, errW_some] <;> rfl) | (simp [*, errW_none, errW_some] <;> rfl), bw HB⟩

end Go.Proofs.Ytcbohbeipgcfhaa.G

/- The reference's arithmetic on numbers of 128 bits, as the printed functions compute it: doubling, sum, difference, comparison, long division, greatest common divisor: for all numbers below 2^128 (a divisor that is not 0). -/
namespace Go.Proofs.Ytcbohbeipgcfhaa.Mth
open Go.RowKit Go.Proofs.Ytcbohbeipgcfhaa.G Go.Proofs.Ytcbohbeipgcfhaa.Given Go.Proofs.YtcbohbeipgcfhaaW.PrintWords Go.Proofs.YtcbohbeipgcfhaaW.PrintLast Go.Proofs.YtcbohbeipgcfhaaW.PrintMore
set_option linter.unusedVariables false

/-- the upper and the lower half of a number -/
def hi (n : Nat) : Int := ((n / 18446744073709551616 : Nat) : Int)
def lo (n : Nat) : Int := ((n % 18446744073709551616 : Nat) : Int)

theorem gcd_ev : ∀ b a : Nat, Ev (fun k => ratio_gcd.f k a b) ((Nat.gcd a b : Nat) : Int) := by
  intro b
  induction b using Nat.strongRecOn with
  | _ b ih =>
    intro a
    by_cases h : b = 0
    · subst h
      refine ev_some (fun k => ?_); simp only [ratio_gcd.f, ratio_gcd.l0]; rw [if_pos (by rfl), Nat.gcd_zero_right]
    · have hlt : a % b < b := Nat.mod_lt _ (by omega)
      have := ih (a % b) hlt b; rw [show Nat.gcd a b = Nat.gcd b (a % b) from by rw [Nat.gcd_comm a b, Nat.gcd_rec b a, Nat.gcd_comm]]; refine Ev.step (fun k => ?_) this; simp only [ratio_gcd.f, ratio_gcd.l0]; rw [if_neg (by omega)]; rfl

theorem twice_eq (n : Nat) (h : n < 340282366920938463463374607431768211456) : r1_Twice.f (hi n) (lo n) = some (hi (2 * n % 340282366920938463463374607431768211456), lo (2 * n % 340282366920938463463374607431768211456)) := by
  unfold r1_Twice.f; obtain ⟨H, hH⟩ : ∃ H, n / 18446744073709551616 = H := ⟨_, rfl⟩; obtain ⟨L, hL⟩ : ∃ L, n % 18446744073709551616 = L := ⟨_, rfl⟩
  have e1 : IntKind.u64.wrap (hi n * 2) = ((H % 9223372036854775808 * 2 : Nat) : Int) := by
    unfold hi; rw [hH, wu]; omega
  have e2 : lo n / 9223372036854775808 = ((L / 9223372036854775808 : Nat) : Int) := by unfold lo; rw [hL]; omega
  have e3 : IntKind.u64.wrap (lo n * 2) = lo (2 * n % 340282366920938463463374607431768211456) := by
    unfold lo; rw [wu]; omega
  rw [e1, e2, e3, or_add (H % 9223372036854775808) (L / 9223372036854775808) 2 1 rfl (by omega) (by omega)]
  have e4 : ((H % 9223372036854775808 * 2 + L / 9223372036854775808 : Nat) : Int) = hi (2 * n % 340282366920938463463374607431768211456) := by
    unfold hi; omega
  rw [e4]

theorem minus_eq (a b : Nat) (ha : a < 340282366920938463463374607431768211456) (hb : b < 340282366920938463463374607431768211456) :
    r1_Minus.f (hi a) (lo a) (hi b) (lo b) = some (hi ((a + 340282366920938463463374607431768211456 - b) % 340282366920938463463374607431768211456), lo ((a + 340282366920938463463374607431768211456 - b) % 340282366920938463463374607431768211456)) := by
  unfold r1_Minus.f bits_Sub64.f; rw [if_pos (by unfold lo; omega), Option.bind_some]; dsimp only; rw [if_pos (by unfold hi; split <;> omega), Option.bind_some]; simp only [Option.some.injEq, Prod.mk.injEq]; unfold hi lo; constructor
  · split <;> omega
  · omega

theorem plus_eq (a b : Nat) (ha : a < 340282366920938463463374607431768211456) (hb : b < 340282366920938463463374607431768211456) :
    r1_Plus.f (hi a) (lo a) (hi b) (lo b) = some (hi ((a + b) % 340282366920938463463374607431768211456), lo ((a + b) % 340282366920938463463374607431768211456)) := by
  unfold r1_Plus.f bits_Add64.f; rw [if_pos (by unfold lo; omega), Option.bind_some]; dsimp only; rw [if_pos (by unfold hi lo; omega), Option.bind_some]; simp only [Option.some.injEq, Prod.mk.injEq]; unfold hi lo; constructor <;> omega

theorem hl_eq {a b : Nat} : hi a = hi b → lo a = lo b → a = b := by unfold hi lo; omega
theorem order_ev (a b : Nat) : Ev (fun k => r1_Order.f k (hi a) (lo a) (hi b) (lo b)) (if a < b then (-1 : Int) else if a = b then 0 else 1) := by
  have key : Ev (fun k => r1_Order.j0 k (decide (a < b)) (hi a) (lo a) (hi b) (lo b)) (if a < b then (-1 : Int) else if a = b then 0 else 1) := by
    refine ev_some (fun k => ?_); simp only [r1_Order.j0, decide_eq_true_eq]
    by_cases h : a < b
    · rw [if_pos h, if_pos h]
    · rw [if_neg h, if_neg h]
      by_cases e : a = b
      · subst e; simp
      · rw [if_neg e, if_neg]
        intro hc; simp only [Bool.and_eq_true, beq_iff_eq] at hc; exact e (hl_eq hc.1 hc.2)
  refine Ev.congr (fun k => ?_) key; unfold r1_Order.f
  by_cases h1 : hi a < hi b
  · rw [if_pos h1]
    congr 1
    symm; rw [decide_eq_true_eq]; unfold hi at h1; omega
  · rw [if_neg h1]
    by_cases h2 : hi a = hi b
    · rw [if_pos h2]
      congr 1
      rw [decide_eq_decide]; unfold hi at h2; unfold lo; omega
    · rw [if_neg h2]
      congr 1
      symm; rw [decide_eq_false_iff_not]; unfold hi at h1 h2; omega

theorem bit_lo (N i : Nat) (hi' : i < 64) : N % 18446744073709551616 / 2 ^ i % 2 = N / 2 ^ i % 2 := by
  have h := Nat.testBit_mod_two_pow N 64 i; rw [show decide (i < 64) = true from decide_eq_true hi', Bool.true_and] at h; rw [Nat.testBit_eq_decide_div_mod_eq, Nat.testBit_eq_decide_div_mod_eq, decide_eq_decide] at h
  change (N % 18446744073709551616 / 2 ^ i % 2 = 1 ↔ _) at h
  obtain ⟨X, hX⟩ : ∃ X, N % 18446744073709551616 / 2 ^ i = X := ⟨_, rfl⟩; obtain ⟨Y, hY⟩ : ∃ Y, N / 2 ^ i = Y := ⟨_, rfl⟩; rw [hX, hY] at h ⊢; omega
theorem bit_hi (N i : Nat) (hi' : 64 ≤ i) : N / 18446744073709551616 / 2 ^ (i - 64) = N / 2 ^ i := by
  rw [Nat.div_div_eq_div_mul]
  have : 18446744073709551616 * 2 ^ (i - 64) = 2 ^ i := by
    rw [show (18446744073709551616 : Nat) = 2 ^ 64 from rfl, ← Nat.pow_add, show 64 + (i - 64) = i from by omega]
  rw [this]
theorem and_one (a : Nat) (ha : a < 18446744073709551616) : Go.bits .and .u64 (a : Int) 1 = ((a % 2 : Nat) : Int) := by
  have h := bits_and_u64_nat a 1 ha (by omega); rw [Nat.and_one_is_mod] at h; exact h

/-- One round, from the doubled rest with its new bit. -/
theorem dstep_ev (N D Q R b i : Nat) (hN : N < 340282366920938463463374607431768211456) (hD : D < 340282366920938463463374607431768211456) (hD0 : 0 < D) (hQ : Q < 170141183460469231731687303715884105728) (hR : R < D) (hb : b ≤ 1) {r : Int × Int × Int × Int}
    (h : Ev (fun k => r1_Divide.l0 k ((i : Int) - 1) (hi N) (lo N) (hi D) (lo D) (hi (if D ≤ 2 * R + b then 2 * Q + 1 else 2 * Q)) (lo (if D ≤ 2 * R + b then 2 * Q + 1 else 2 * Q)) (hi (if D ≤ 2 * R + b then 2 * R + b - D else 2 * R + b)) (lo (if D ≤ 2 * R + b then 2 * R + b - D else 2 * R + b))) r) (hi' : i < 128) :
    Ev (fun k => r1_Divide.j2 k (i : Int) (b : Int) (hi N) (lo N) (hi D) (lo D) (hi Q) (lo Q) (hi R) (lo R)) r := by
  have t1 := twice_eq R (by omega); have t2 := twice_eq Q (by omega); obtain ⟨X, hX⟩ : ∃ X, 2 * R % 340282366920938463463374607431768211456 = X := ⟨_, rfl⟩; rw [hX] at t1; rw [show 2 * Q % 340282366920938463463374607431768211456 = 2 * Q from by omega] at t2
  have eo1 : Go.bits .or .u64 (lo X) (b : Int) = lo (X + b) := by
    have := or_add (X % 18446744073709551616 / 2) b 2 1 rfl (by omega) (by omega); rw [show X % 18446744073709551616 / 2 * 2 = X % 18446744073709551616 from by omega] at this; unfold lo; rw [this]; omega
  have eh1 : hi X = hi (X + b) := by unfold hi; omega
  have eo2 : Go.bits .or .u64 (lo (2 * Q)) 1 = lo (2 * Q + 1) := by
    have := or_add (2 * Q % 18446744073709551616 / 2) 1 2 1 rfl (by omega) (by omega); rw [show 2 * Q % 18446744073709551616 / 2 * 2 = 2 * Q % 18446744073709551616 from by omega] at this; unfold lo; exact this.trans (by omega)
  (have eh2 : hi (2 * Q) = hi (2 * Q + 1) := by unfold hi; omega); (have ei : wrap64 ((i : Int) - 1) = (i : Int) - 1 := by unfold wrap64; omega); have hm := minus_eq (X + b) D (by omega) hD
  by_cases hov : 340282366920938463463374607431768211456 ≤ 2 * R
  · rw [if_pos (by omega), if_pos (by omega)] at h
    refine Ev.step (fun k => ?_) h; simp only [r1_Divide.j2]; rw [t1, t2, Option.bind_some, Option.bind_some]; dsimp only; rw [if_pos (by unfold hi; omega), eo1, eh1, hm, Option.bind_some, ei]; dsimp only; rw [eo2, eh2, show (X + b + 340282366920938463463374607431768211456 - D) % 340282366920938463463374607431768211456 = 2 * R + b - D from by omega]
  · have ho := order_ev (X + b) D
    by_cases hge : D ≤ 2 * R + b
    · rw [if_pos hge, if_pos hge] at h
      rw [if_neg (show ¬ X + b < D by omega)] at ho; obtain ⟨c, hc⟩ : ∃ c : Int, (if X + b = D then (0 : Int) else 1) = c := ⟨_, rfl⟩; rw [hc] at ho; (have hc0 : c ≥ 0 := by rw [← hc]; split <;> decide); (have hsub : (X + b + 340282366920938463463374607431768211456 - D) % 340282366920938463463374607431768211456 = 2 * R + b - D := by omega); rw [← hsub] at h; refine Ev.step (f := fun k => (r1_Order.f k (hi (X + b)) (lo (X + b)) (hi D) (lo D)).bind fun t => if t ≥ 0 then r1_Divide.l0 k ((i : Int) - 1) (hi N) (lo N) (hi D) (lo D) (hi (2 * Q + 1)) (lo (2 * Q + 1)) (hi ((X + b + 340282366920938463463374607431768211456 - D) % 340282366920938463463374607431768211456)) (lo ((X + b + 340282366920938463463374607431768211456 - D) % 340282366920938463463374607431768211456)) else r1_Divide.l0 k ((i : Int) - 1) (hi N) (lo N) (hi D) (lo D) (hi (2 * Q)) (lo (2 * Q)) (hi (X + b)) (lo (X + b))) (fun k => ?_) (Ev.bind ho (Ev.congr (fun k => if_pos hc0) h)); simp only [r1_Divide.j2]; rw [t1, t2, Option.bind_some, Option.bind_some]; dsimp only; rw [if_neg (by unfold hi; omega), eo1, eh1, hm, ei, eo2, ← eh2]; rfl
    · rw [if_neg hge, if_neg hge] at h
      (have hXR : X = 2 * R := by omega); rw [← hXR] at h; rw [if_pos (show X + b < D by omega)] at ho; refine Ev.step (f := fun k => (r1_Order.f k (hi (X + b)) (lo (X + b)) (hi D) (lo D)).bind fun t => if t ≥ 0 then r1_Divide.l0 k ((i : Int) - 1) (hi N) (lo N) (hi D) (lo D) (hi (2 * Q + 1)) (lo (2 * Q + 1)) (hi ((X + b + 340282366920938463463374607431768211456 - D) % 340282366920938463463374607431768211456)) (lo ((X + b + 340282366920938463463374607431768211456 - D) % 340282366920938463463374607431768211456)) else r1_Divide.l0 k ((i : Int) - 1) (hi N) (lo N) (hi D) (lo D) (hi (2 * Q)) (lo (2 * Q)) (hi (X + b)) (lo (X + b))) (fun k => ?_) (Ev.bind ho (Ev.congr (fun k => if_neg (by decide)) h)); simp only [r1_Divide.j2]; rw [t1, t2, Option.bind_some, Option.bind_some]; dsimp only; rw [if_neg (by unfold hi; omega), eo1, eh1, hm, ei, eo2, ← eh2]; rfl

theorem div_step (M D b : Nat) (hD0 : 0 < D) (hb : b ≤ 1) : (2 * M + b) / D = (if D ≤ 2 * (M % D) + b then 2 * (M / D) + 1 else 2 * (M / D)) ∧ (2 * M + b) % D = (if D ≤ 2 * (M % D) + b then 2 * (M % D) + b - D else 2 * (M % D) + b) := by
  have e := Nat.div_add_mod M D; have hr := Nat.mod_lt M hD0; obtain ⟨Q, hQ⟩ : ∃ Q, M / D = Q := ⟨_, rfl⟩; obtain ⟨R, hR⟩ : ∃ R, M % D = R := ⟨_, rfl⟩; rw [hQ, hR] at e; rw [hR] at hr; rw [hQ, hR]
  by_cases h : D ≤ 2 * R + b
  · rw [if_pos h, if_pos h]
    (have : 2 * M + b = D * (2 * Q + 1) + (2 * R + b - D) := by rw [Nat.mul_add, Nat.mul_left_comm]; omega); rw [this, Nat.mul_add_div hD0, Nat.mul_add_mod, Nat.div_eq_of_lt (by omega), Nat.mod_eq_of_lt (by omega)]; exact ⟨rfl, rfl⟩
  · rw [if_neg h, if_neg h]
    (have : 2 * M + b = D * (2 * Q) + (2 * R + b) := by rw [Nat.mul_left_comm]; omega); rw [this, Nat.mul_add_div hD0, Nat.mul_add_mod, Nat.div_eq_of_lt (by omega), Nat.mod_eq_of_lt (by omega)]; exact ⟨rfl, rfl⟩

theorem dloop_ev (N D : Nat) (hN : N < 340282366920938463463374607431768211456) (hD : D < 340282366920938463463374607431768211456) (hD0 : 0 < D) : ∀ i : Nat, i ≤ 128 →
    Ev (fun k => r1_Divide.l0 k ((i : Int) - 1) (hi N) (lo N) (hi D) (lo D) (hi (N / 2 ^ i / D)) (lo (N / 2 ^ i / D)) (hi (N / 2 ^ i % D)) (lo (N / 2 ^ i % D))) (hi (N / D), lo (N / D), hi (N % D), lo (N % D)) := by
  intro i
  induction i with
  | zero =>
    intro _; rw [Nat.pow_zero, Nat.div_one]; refine ev_some (fun k => ?_); simp only [r1_Divide.l0]; rw [if_neg (by decide)]
  | succ i ih =>
    intro hi1; have h := ih (by omega); obtain ⟨b, hb⟩ : ∃ b, N / 2 ^ i % 2 = b := ⟨_, rfl⟩; obtain ⟨M, hM⟩ : ∃ M, N / 2 ^ (i + 1) = M := ⟨_, rfl⟩
    have hNM : N / 2 ^ i = 2 * M + b := by
      rw [← hM, ← hb, Nat.pow_succ, ← Nat.div_div_eq_div_mul]; omega
    have hb1 : b ≤ 1 := by omega
    have hMN : M < 170141183460469231731687303715884105728 := by
      rw [← hM, Nat.pow_succ, ← Nat.div_div_eq_div_mul]; have := Nat.div_le_self N (2 ^ i); omega
    obtain ⟨d1, d2⟩ := div_step M D b hD0 hb1; rw [hNM, d1, d2] at h; have hQM : M / D ≤ M := Nat.div_le_self _ _; rw [hM]; have hj := dstep_ev N D (M / D) (M % D) b i hN hD hD0 (by omega) (Nat.mod_lt _ hD0) hb1 h (by omega); refine Ev.step (fun k => ?_) hj; rw [show (((i + 1 : Nat) : Int) - 1) = (i : Int) from by omega]; simp only [r1_Divide.l0]
    have ew : IntKind.u64.wrap (Int.tmod (i : Int) 64) = ((i % 64 : Nat) : Int) := by
      have : Int.tmod (i : Int) 64 = ((i % 64 : Nat) : Int) := rfl; rw [this, wu]; omega
    rw [if_pos (by omega), ew, if_pos (by omega)]
    by_cases h64 : 64 ≤ i
    · rw [if_pos (by omega)]
      (have ew2 : IntKind.u64.wrap (wrap64 ((i : Int) - 64)) = ((i - 64 : Nat) : Int) := by unfold wrap64; rw [wu]; omega); rw [ew2, if_pos (by omega)]
      have e1 : shr .u64 (hi N) ((i - 64 : Nat) : Int) = ((N / 2 ^ i : Nat) : Int) := by
        unfold hi; rw [shr_nat _ (i - 64) _ (by omega) rfl, bit_hi N i h64]
      have e2 := and_one (N / 2 ^ i) (by
        rw [← bit_hi N i h64]; have := Nat.div_le_self (N / 18446744073709551616) (2 ^ (i - 64))
        omega)
      rw [e1, e2, hb]
    · rw [if_neg (by omega)]
      have e1 : shr .u64 (lo N) ((i % 64 : Nat) : Int) = ((N % 18446744073709551616 / 2 ^ i : Nat) : Int) := by
        rw [show i % 64 = i from by omega]; unfold lo; rw [shr_nat _ i _ (by omega) rfl]
      have e2 := and_one (N % 18446744073709551616 / 2 ^ i) (by
        have := Nat.div_le_self (N % 18446744073709551616) (2 ^ i)
        omega)
      rw [e1, e2, bit_lo N i (by omega), hb]

theorem divide_ev (N D : Nat) (hN : N < 340282366920938463463374607431768211456) (hD : D < 340282366920938463463374607431768211456) (hD0 : 0 < D) :
    Ev (fun k => r1_Divide.f k (hi N) (lo N) (hi D) (lo D)) (hi (N / D), lo (N / D), hi (N % D), lo (N % D)) := by
  have hlong : Ev (fun k => r1_Divide.j0 k false (hi N) (lo N) (hi D) (lo D)) (hi (N / D), lo (N / D), hi (N % D), lo (N % D)) := by
    have h := dloop_ev N D hN hD hD0 128 (Nat.le_refl _); have e0 : N / 2 ^ 128 = 0 := Nat.div_eq_of_lt hN; rw [e0, Nat.zero_div, Nat.zero_mod] at h; refine Ev.step (fun k => ?_) h; simp only [r1_Divide.j0]; rw [if_neg (by decide)]; rfl
  by_cases h1 : N < 18446744073709551616
  · by_cases h2 : D < 18446744073709551616
    · refine Ev.congr (f := fun k => r1_Divide.j0 k true (hi N) (lo N) (hi D) (lo D)) (fun k => ?_) (ev_some (fun k => ?_))
      · unfold r1_Divide.f
        rw [if_pos (by unfold hi; omega)]
        congr 1
        rw [beq_iff_eq]; unfold hi; omega
      · simp only [r1_Divide.j0]
        rw [if_pos trivial, if_neg (by unfold lo; omega)]; (have el1 : lo N = (N : Int) := by unfold lo; omega); (have el2 : lo D = (D : Int) := by unfold lo; omega); have e3 : Int.tdiv (N : Int) (D : Int) = ((N / D : Nat) : Int) := rfl; have e4 : Int.tmod (N : Int) (D : Int) = ((N % D : Nat) : Int) := rfl; have l1 := Nat.div_le_self N D; have l2 := Nat.mod_lt N hD0; rw [el1, el2, e3, e4]; obtain ⟨Q, hQ⟩ : ∃ Q, N / D = Q := ⟨_, rfl⟩; obtain ⟨R, hR⟩ : ∃ R, N % D = R := ⟨_, rfl⟩; rw [hQ] at l1; rw [hR] at l2; rw [hQ, hR, wu]; simp only [Option.some.injEq, Prod.mk.injEq]; unfold hi lo; omega
    · refine Ev.congr (fun k => ?_) hlong
      unfold r1_Divide.f; rw [if_pos (by unfold hi; omega)]
      congr 1
      rw [beq_eq_false_iff_ne]; unfold hi; omega
  · refine Ev.congr (fun k => ?_) hlong
    unfold r1_Divide.f; rw [if_neg (by unfold hi; omega)]

theorem divisor_ev : ∀ b a : Nat, a < 340282366920938463463374607431768211456 → b < 340282366920938463463374607431768211456 →
    Ev (fun k => r1_Divisor.f k (hi a) (lo a) (hi b) (lo b)) (hi (Nat.gcd a b), lo (Nat.gcd a b)) := by
  intro b
  induction b using Nat.strongRecOn with
  | _ b ih =>
    intro a ha hb
    by_cases h : b = 0
    · subst h
      refine ev_some (fun k => ?_); simp only [r1_Divisor.f, r1_Divisor.l0]; rw [Nat.gcd_zero_right, if_neg (by decide)]
    · have hlt : a % b < b := Nat.mod_lt _ (by omega)
      have h2 := ih (a % b) hlt b hb (by omega); rw [show Nat.gcd a b = Nat.gcd b (a % b) from by rw [Nat.gcd_comm a b, Nat.gcd_rec b a, Nat.gcd_comm]]; refine Ev.step (fun k => ?_) (Ev.bind (f := fun k (t : Int × Int × Int × Int) => r1_Divisor.l0 k (hi b) (lo b) t.2.2.1 t.2.2.2) (divide_ev a b ha hb (by omega)) h2); simp only [r1_Divisor.f, r1_Divisor.l0]; rw [if_pos]; have : ¬ (hi b = 0 ∧ lo b = 0) := by unfold hi lo; omega
      by_cases hh : hi b = 0
      · have hl : ¬ lo b = 0 := fun hl => this ⟨hh, hl⟩
        simp [hl]
      · simp [hh]
end Go.Proofs.Ytcbohbeipgcfhaa.Mth

/- Reducing a fraction to lowest terms: the program's and the reference's functions come to one plain function ('red'); New and Valid of both sides are equal, for all numbers. -/
namespace Go.Proofs.Ytcbohbeipgcfhaa.Mth
open Go.RowKit Go.Proofs.Ytcbohbeipgcfhaa.G Go.Proofs.Ytcbohbeipgcfhaa.Given Go.Proofs.YtcbohbeipgcfhaaW.PrintWords Go.Proofs.YtcbohbeipgcfhaaW.PrintLast Go.Proofs.YtcbohbeipgcfhaaW.PrintMore
set_option linter.unusedVariables false

/-- an int of 64 bits -/
def I64 (a : Int) : Prop := -9223372036854775808 ≤ a ∧ a ≤ 9223372036854775807
theorem I64.of {a : Int} (h : (Lit.int .i64 a).wf = true) : I64 a := by
  simp only [Lit.wf, IntKind.min, IntKind.max, IntKind.signed, IntKind.bits, Bool.and_eq_true, decide_eq_true_eq, if_true] at h; unfold I64; omega

/-- The fraction n / d (d not 0) with a sign, in lowest terms, or the error. -/
def red (neg : Bool) (n d : Nat) : Int × Int × Int :=
  if n / Nat.gcd n d ≤ 1152921504606846976 ∧ d / Nat.gcd n d ≤ 1152921504606846976 then
    ((if neg then -((n / Nat.gcd n d : Nat) : Int) else ((n / Nat.gcd n d : Nat) : Int)), ((d / Nat.gcd n d : Nat) : Int), 0)
  else (0, 0, 6)

theorem reduce_ev (neg : Bool) (n d : Nat) (hn : n < 340282366920938463463374607431768211456) (hd : d < 340282366920938463463374607431768211456) (hd0 : 0 < d) :
    Ev (fun k => r1_Reduce.f k neg (hi n) (lo n) (hi d) (lo d)) (red neg n d) := by
  have hg0 : 0 < Nat.gcd n d := Nat.gcd_pos_of_pos_right _ hd0; have hgd : Nat.gcd n d ≤ d := Nat.gcd_le_right _ hd0; refine Ev.congr (fun k => by unfold r1_Reduce.f; rfl) ?_; refine Ev.bind (divisor_ev d n hn hd) ?_; refine Ev.bind (divide_ev n (Nat.gcd n d) hn (by omega) hg0) ?_; refine Ev.bind (divide_ev d (Nat.gcd n d) hd (by omega) hg0) ?_; have hX := Nat.div_le_self n (Nat.gcd n d); have hY := Nat.div_le_self d (Nat.gcd n d); unfold red; obtain ⟨X, hXe⟩ : ∃ X, n / Nat.gcd n d = X := ⟨_, rfl⟩; obtain ⟨Y, hYe⟩ : ∃ Y, d / Nat.gcd n d = Y := ⟨_, rfl⟩; rw [hXe] at hX; rw [hYe] at hY; simp only [hXe, hYe]
  have key : Ev (fun k => r1_Reduce.j0 k neg (decide (¬ (X ≤ 1152921504606846976 ∧ Y ≤ 1152921504606846976))) (hi X) (lo X) (hi Y) (lo Y)) (if X ≤ 1152921504606846976 ∧ Y ≤ 1152921504606846976 then ((if neg then -(X : Int) else (X : Int)), (Y : Int), (0 : Int)) else (0, 0, 6)) := by
    refine ev_some (fun k => ?_); simp only [r1_Reduce.j0, decide_eq_true_eq]
    by_cases h : X ≤ 1152921504606846976 ∧ Y ≤ 1152921504606846976
    · rw [if_neg (by simpa using h), if_pos h]
      (have e1 : wrap64 (lo X) = (X : Int) := by unfold wrap64 lo; omega); (have e2 : wrap64 (lo Y) = (Y : Int) := by unfold wrap64 lo; omega); (have e3 : wrap64 (-(X : Int)) = -(X : Int) := by unfold wrap64; omega); rw [e1, e2, e3]
      cases neg <;> rfl
    · rw [if_pos (by simpa using h), if_neg h]
  refine Ev.congr (fun k => ?_) key
  by_cases h1 : hi X > 0
  · rw [if_pos h1]; congr 1; symm; rw [decide_eq_true_eq]; unfold hi at h1; omega
  · rw [if_neg h1]
    by_cases h2 : hi Y > 0
    · rw [if_pos h2]; congr 1; symm; rw [decide_eq_true_eq]; unfold hi at h2; omega
    · rw [if_neg h2]
      by_cases h3 : lo X > 1152921504606846976
      · rw [if_pos h3]; congr 1; symm; rw [decide_eq_true_eq]; unfold lo at h3; omega
      · rw [if_neg h3]; congr 1; rw [decide_eq_decide]; unfold hi at h1 h2; unfold lo at h3 ⊢; omega

theorem over_ev (neg : Bool) (n g : Nat) (hn : n < 340282366920938463463374607431768211456) (hg : g < 18446744073709551616) (hg0 : 0 < g) :
    Ev (fun k => ratio_wide_over.f k neg (hi n) (lo n) g) (neg, hi (n / g), lo (n / g)) := by
  have hd := div64_ev ((n / 18446744073709551616) % g) (n % 18446744073709551616) g hg (Nat.mod_lt _ (by decide)) (Nat.mod_lt _ hg0)
  have e0 : n / g = n / 18446744073709551616 / g * 18446744073709551616 + ((n / 18446744073709551616) % g * 18446744073709551616 + n % 18446744073709551616) / g := by
    have h1 := Nat.div_add_mod n 18446744073709551616; have h2 := Nat.div_add_mod (n / 18446744073709551616) g
    have h3 : n = g * (n / 18446744073709551616 / g * 18446744073709551616) + ((n / 18446744073709551616) % g * 18446744073709551616 + n % 18446744073709551616) := by
      rw [← Nat.mul_assoc]; obtain ⟨A, hA⟩ : ∃ A, g * (n / 18446744073709551616 / g) = A := ⟨_, rfl⟩; obtain ⟨B, hB⟩ : ∃ B, n / 18446744073709551616 % g = B := ⟨_, rfl⟩; rw [hA, hB] at h2 ⊢; omega
    conv => lhs; rw [h3]
    rw [Nat.mul_add_div hg0]
  have hlt : ((n / 18446744073709551616) % g * 18446744073709551616 + n % 18446744073709551616) / g < 18446744073709551616 := by
    rw [Nat.div_lt_iff_lt_mul hg0]; have h1 := Nat.mod_lt (n / 18446744073709551616) hg0; have h2 := Nat.mod_lt n (show 0 < 18446744073709551616 by decide); have h3 : (n / 18446744073709551616 % g + 1) * 18446744073709551616 ≤ g * 18446744073709551616 := Nat.mul_le_mul_right _ h1; rw [Nat.mul_comm 18446744073709551616 g]; omega
  have hq : n / 18446744073709551616 / g ≤ n / 18446744073709551616 := Nat.div_le_self _ _; obtain ⟨A, hA⟩ : ∃ A, n / 18446744073709551616 / g = A := ⟨_, rfl⟩; obtain ⟨B, hB⟩ : ∃ B, ((n / 18446744073709551616) % g * 18446744073709551616 + n % 18446744073709551616) / g = B := ⟨_, rfl⟩; rw [hA, hB] at e0; rw [hB] at hlt hd; rw [hA] at hq; (have a1 : hi (n / g) = (A : Int) := by unfold hi; omega); (have a2 : lo (n / g) = (B : Int) := by unfold lo; omega); rw [a1, a2]; refine Ev.congr (f := fun k => (bits_Div64.f k ((n / 18446744073709551616 % g : Nat) : Int) ((n % 18446744073709551616 : Nat) : Int) (g : Int)).bind fun b => some (neg, (A : Int), b.1)) (fun k => ?_) ?_
  · unfold ratio_wide_over.f hi lo
    rw [if_neg (by omega)]; have e4 : Int.tmod (((n / 18446744073709551616 : Nat) : Int)) (g : Int) = ((n / 18446744073709551616 % g : Nat) : Int) := rfl; have e5 : Int.tdiv (((n / 18446744073709551616 : Nat) : Int)) (g : Int) = ((n / 18446744073709551616 / g : Nat) : Int) := rfl; rw [e4, e5, hA]; rw [show IntKind.u64.wrap (A : Int) = (A : Int) from by rw [wu]; omega]
  · obtain ⟨K, hK⟩ := hd
    refine ⟨K, fun k hk => ?_⟩; have hk2 := hK k hk; dsimp only at hk2 ⊢; rw [hk2]; rfl

theorem lowest_ev (neg : Bool) (n d : Nat) (hn : n < 340282366920938463463374607431768211456) (hd : d < 18446744073709551616) (hd0 : 0 < d) :
    Ev (fun k => ratio_lowest.f k neg (hi n) (lo n) d) (red neg n d) := by
  have hg0 : 0 < Nat.gcd n d := Nat.gcd_pos_of_pos_right _ hd0; have hgd : Nat.gcd n d ≤ d := Nat.gcd_le_right _ hd0; (have hrem : (n / 18446744073709551616) * 18446744073709551616 + n % 18446744073709551616 = n := by omega); refine Ev.congr (fun k => by unfold ratio_lowest.f; rfl) ?_; have r1 := rem64_ev (n / 18446744073709551616) (n % 18446744073709551616) d hd (Nat.mod_lt _ (by decide)) hd0; rw [hrem] at r1; refine Ev.bind r1 ?_; have r2 := gcd_ev (n % d) d; rw [show Nat.gcd d (n % d) = Nat.gcd n d from by rw [Nat.gcd_comm n d, Nat.gcd_rec d n, Nat.gcd_comm]] at r2; refine Ev.bind r2 ?_; refine Ev.bind (over_ev neg n (Nat.gcd n d) hn (by omega) hg0) ?_; have hX := Nat.div_le_self n (Nat.gcd n d); have hY := Nat.div_le_self d (Nat.gcd n d); have e5 : Int.tdiv (d : Int) ((Nat.gcd n d : Nat) : Int) = ((d / Nat.gcd n d : Nat) : Int) := rfl; unfold red; rw [e5]; obtain ⟨X, hXe⟩ : ∃ X, n / Nat.gcd n d = X := ⟨_, rfl⟩; obtain ⟨Y, hYe⟩ : ∃ Y, d / Nat.gcd n d = Y := ⟨_, rfl⟩; rw [hXe] at hX; rw [hYe] at hY; simp only [hXe, hYe]; rw [show IntKind.u64.wrap (Y : Int) = (Y : Int) from by rw [wu]; omega]
  have key : Ev (fun k => ratio_lowest.j0 k Y (decide (¬ (X ≤ 1152921504606846976 ∧ Y ≤ 1152921504606846976))) neg (hi X) (lo X)) (if X ≤ 1152921504606846976 ∧ Y ≤ 1152921504606846976 then ((if neg then -(X : Int) else (X : Int)), (Y : Int), (0 : Int)) else (0, 0, 6)) := by
    refine ev_some (fun k => ?_); simp only [ratio_lowest.j0, decide_eq_true_eq]
    by_cases h : X ≤ 1152921504606846976 ∧ Y ≤ 1152921504606846976
    · rw [if_neg (by simpa using h), if_pos h]
      (have e1 : wrap64 (lo X) = (X : Int) := by unfold wrap64 lo; omega); (have e2 : wrap64 (Y : Int) = (Y : Int) := by unfold wrap64; omega); (have e3 : wrap64 (-(X : Int)) = -(X : Int) := by unfold wrap64; omega); rw [e1, e2, e3]
      cases neg <;> rfl
    · rw [if_pos (by simpa using h), if_neg h]
  refine Ev.congr (fun k => ?_) key; rw [if_neg (by omega)]
  by_cases h1 : hi X = 0
  · rw [if_pos h1]
    by_cases h3 : lo X > 1152921504606846976
    · rw [if_pos h3]; congr 1; symm; rw [decide_eq_true_eq]; unfold lo at h3; omega
    · rw [if_neg h3]; congr 1; rw [decide_eq_decide]; unfold hi at h1; unfold lo at h3; omega
  · rw [if_neg h1]; congr 1; symm; rw [decide_eq_true_eq]; unfold hi at h1; omega

theorem abs_eq {a : Int} (h : I64 a) : ratio_abs.f a = some (a.natAbs : Int) := by
  unfold ratio_abs.f I64 at *
  split <;> simp only [Option.some.injEq, wu] <;> (try unfold wrap64) <;> omega
theorem size_eq {a : Int} (h : I64 a) : r1_Size.f a = some (a.natAbs : Int) := by
  unfold r1_Size.f I64 at *
  split <;> simp only [Option.some.injEq, wu] <;> (try unfold wrap64) <;> omega

/-- New's result -/
def newR (a b : Int) : Int × Int × Int := if b = 0 then (0, 0, 2) else red ((decide (a < 0)) != (decide (b < 0))) a.natAbs b.natAbs
theorem abs_lt {a : Int} (h : I64 a) : a.natAbs < 18446744073709551616 := by unfold I64 at h; omega
theorem hi_small {n : Nat} (h : n < 18446744073709551616) : hi n = 0 := by unfold hi; omega
theorem lo_small {n : Nat} (h : n < 18446744073709551616) : lo n = (n : Int) := by unfold lo; omega

theorem rnew_ev {a b : Int} (ha : I64 a) (hb : I64 b) : Ev (fun k => ratio_New.f k a b) (newR a b) := by
  unfold newR
  by_cases h : b = 0
  · rw [if_pos h]; refine Ev.congr (fun k => by unfold ratio_New.f; rw [if_pos h]) (Ev.now _)
  · rw [if_neg h]
    have := lowest_ev ((decide (a < 0)) != (decide (b < 0))) a.natAbs b.natAbs (by have := abs_lt ha; omega) (abs_lt hb) (by omega); rw [hi_small (abs_lt ha), lo_small (abs_lt ha)] at this; refine Ev.congr (fun k => ?_) (Ev.bind (f := fun _ (t : Int × Int × Int) => some (t.1, t.2.1, t.2.2)) this (Ev.now _)); unfold ratio_New.f; rw [if_neg h, abs_eq ha, abs_eq hb, Option.bind_some, Option.bind_some]
theorem fnew_ev {a b : Int} (ha : I64 a) (hb : I64 b) : Ev (fun k => r1_New.f k a b) (newR a b) := by
  unfold newR
  by_cases h : b = 0
  · rw [if_pos h]; refine Ev.congr (fun k => by unfold r1_New.f; rw [if_pos h]) (Ev.now _)
  · rw [if_neg h]
    have := reduce_ev ((decide (a < 0)) != (decide (b < 0))) a.natAbs b.natAbs (by have := abs_lt ha; omega) (by have := abs_lt hb; omega) (by omega); rw [hi_small (abs_lt ha), lo_small (abs_lt ha), hi_small (abs_lt hb), lo_small (abs_lt hb)] at this; refine Ev.congr (fun k => ?_) (Ev.bind (f := fun _ (t : Int × Int × Int) => some (t.1, t.2.1, t.2.2)) this (Ev.now _)); unfold r1_New.f; rw [if_neg h, size_eq ha, size_eq hb, Option.bind_some, Option.bind_some]

/-- which fractions are valid -/
def okR (a b : Int) : Prop := (1 ≤ b ∧ b ≤ 1152921504606846976 ∧ -1152921504606846976 ≤ a ∧ a ≤ 1152921504606846976) ∧ Nat.gcd a.natAbs b.natAbs = 1
instance (a b : Int) : Decidable (okR a b) := by unfold okR; infer_instance
theorem rvalid_ev (a b : Int) : Ev (fun k => ratio_Valid.f k a b) (decide (okR a b)) := by
  by_cases h : 1 ≤ b ∧ b ≤ 1152921504606846976 ∧ -1152921504606846976 ≤ a ∧ a ≤ 1152921504606846976
  · have e : decide (okR a b) = (((Nat.gcd a.natAbs b.natAbs : Nat) : Int) == 1) := by
      rw [Bool.eq_iff_iff, decide_eq_true_eq, beq_iff_eq]; unfold okR; omega
    rw [e]; (have ha : I64 a := by unfold I64; omega); refine Ev.congr (fun k => ?_) (Ev.bind (f := fun _ t => some (t == 1)) (gcd_ev b.natAbs a.natAbs) (Ev.now _)); unfold ratio_Valid.f; rw [if_pos h.1, if_pos h.2.1, if_pos h.2.2.1, if_pos h.2.2.2, abs_eq ha, Option.bind_some]; rw [show IntKind.u64.wrap b = (b.natAbs : Int) from by rw [wu]; omega]
  · have e : decide (okR a b) = false := by rw [decide_eq_false_iff_not]; unfold okR; exact fun c => h c.1
    rw [e]; refine Ev.congr (fun k => ?_) (Ev.now _); unfold ratio_Valid.f
    by_cases h1 : b ≥ 1
    · rw [if_pos h1]
      by_cases h2 : b ≤ 1152921504606846976
      · rw [if_pos h2]
        by_cases h3 : a ≥ -1152921504606846976
        · rw [if_pos h3, if_neg (fun h4 => h ⟨h1, h2, h3, h4⟩)]
        · rw [if_neg h3]
      · rw [if_neg h2]
    · rw [if_neg h1]
theorem fvalid_ev (a b : Int) : Ev (fun k => r1_Valid.f k a b) (decide (okR a b)) := by
  have hf : ¬ (1 ≤ b ∧ b ≤ 1152921504606846976 ∧ -1152921504606846976 ≤ a ∧ a ≤ 1152921504606846976) → Ev (fun k => r1_Valid.j0 k true a b) (decide (okR a b)) := by
    intro h; (have e : decide (okR a b) = false := by rw [decide_eq_false_iff_not]; unfold okR; exact fun c => h c.1); rw [e]; refine ev_some (fun k => ?_); simp only [r1_Valid.j0]; rw [if_pos trivial]
  have ht : (1 ≤ b ∧ b ≤ 1152921504606846976 ∧ -1152921504606846976 ≤ a ∧ a ≤ 1152921504606846976) → Ev (fun k => r1_Valid.j0 k false a b) (decide (okR a b)) := by
    intro h; (have ha : I64 a := by unfold I64; omega); (have hb : I64 b := by unfold I64; omega); have hd := divisor_ev b.natAbs a.natAbs (by have := abs_lt ha; omega) (by have := abs_lt hb; omega)
    have hg : Nat.gcd a.natAbs b.natAbs < 18446744073709551616 := by
      have := Nat.gcd_le_right a.natAbs (show 0 < b.natAbs by omega); omega
    rw [hi_small (abs_lt ha), lo_small (abs_lt ha), hi_small (abs_lt hb), lo_small (abs_lt hb), hi_small hg, lo_small hg] at hd
    have e : decide (okR a b) = (((0 : Int) == 0) && (((Nat.gcd a.natAbs b.natAbs : Nat) : Int) == 1)) := by
      rw [Bool.eq_iff_iff, decide_eq_true_eq]; unfold okR; simp; omega
    rw [e]; refine Ev.step (fun k => ?_) (Ev.bind (f := fun _ (t : Int × Int) => some (t.1 == 0 && (t.2 == 1))) hd (Ev.now _)); simp only [r1_Valid.j0]; rw [if_neg (by decide), size_eq ha, size_eq hb, Option.bind_some, Option.bind_some]
  by_cases h1 : b < 1
  · exact Ev.congr (fun k => by unfold r1_Valid.f; rw [if_pos h1]) (hf (by omega))
  · by_cases h2 : b > 1152921504606846976
    · exact Ev.congr (fun k => by unfold r1_Valid.f; rw [if_neg h1, if_pos h2]) (hf (by omega))
    · by_cases h3 : a < -1152921504606846976
      · exact Ev.congr (fun k => by unfold r1_Valid.f; rw [if_neg h1, if_neg h2, if_pos h3]) (hf (by omega))
      · by_cases h4 : a > 1152921504606846976
        · exact Ev.congr (fun k => by unfold r1_Valid.f; rw [if_neg h1, if_neg h2, if_neg h3, decide_eq_true h4]) (hf (by omega))
        · exact Ev.congr (fun k => by unfold r1_Valid.f; rw [if_neg h1, if_neg h2, if_neg h3, decide_eq_false h4]) (ht (by omega))
end Go.Proofs.Ytcbohbeipgcfhaa.Mth

-- Printed by gp.py (a program of this session's own, over the kit's printer) out of the translation; Lean checks it.
namespace Go.Proofs.Ytcbohbeipgcfhaa.G
open Go.Proofs.Ytcbohbeipgcfhaa.Given Go.Proofs.Ytcbohbeipgcfhaa.Short
open Go.RowKit Go.Proofs.YtcbohbeipgcfhaaW.PrintWords Go.Proofs.YtcbohbeipgcfhaaW.PrintLast Go.Proofs.YtcbohbeipgcfhaaW.PrintMore
attribute [local go_sem] max2_int min2_int max_two min_two max_three min_three max_four min_four   -- for this text's walks alone
set_option linter.unusedVariables false
set_option linter.unusedSimpArgs false

/-! ### ratio_wide_compare: function 59 -/
mutual
def ratio_wide_compare.j0 : Nat → Bool → Bool → Int → Int → Bool → Int → Int → Option (Int)
 | 0, _, _, _, _, _, _, _ => none
 | k + 1, x5, x443000, x443001, x443002, x444000, x444001, x444002 => if x5 = true then (ratio_wide_compare.j1 k x5 x443000 x443001 x443002 x444000 x444001 x444002) else (if x443001 = x444001 then (ratio_wide_compare.j1 k (decide (x443002 < x444002)) x443000 x443001 x443002 x444000 x444001 x444002) else (ratio_wide_compare.j1 k false x443000 x443001 x443002 x444000 x444001 x444002))
def ratio_wide_compare.j1 : Nat → Bool → Bool → Int → Int → Bool → Int → Int → Option (Int)
 | 0, _, _, _, _, _, _, _ => none
 | k + 1, x5, x443000, x443001, x443002, x444000, x444001, x444002 => if x5 = true then (some (-1)) else (if x443001 = x444001 then (if x443002 = x444002 then (some 0) else (some 1)) else (some 1))
end
def ratio_wide_compare.f (k : Nat) (a0_0 : Bool) (a0_1 : Int) (a0_2 : Int) (a1_0 : Bool) (a1_1 : Int) (a1_2 : Int) : Option (Int) := if a0_1 = a1_1 then (ratio_wide_compare.j0 k false a0_0 a0_1 a0_2 a1_0 a1_1 a1_2) else (ratio_wide_compare.j0 k (decide (a0_1 < a1_1)) a0_0 a0_1 a0_2 a1_0 a1_1 a1_2)
theorem ratio_wide_compare.mono_l : ∀ k, (∀ y0 y1 y2 y3 y4 y5 y6, LeO (ratio_wide_compare.j0 k y0 y1 y2 y3 y4 y5 y6) (ratio_wide_compare.j0 (k + 1) y0 y1 y2 y3 y4 y5 y6)) ∧ (∀ y0 y1 y2 y3 y4 y5 y6, LeO (ratio_wide_compare.j1 k y0 y1 y2 y3 y4 y5 y6) (ratio_wide_compare.j1 (k + 1) y0 y1 y2 y3 y4 y5 y6))
 | 0 => ⟨fun _ _ _ _ _ _ _ r h => by simp [ratio_wide_compare.j0] at h, fun _ _ _ _ _ _ _ r h => by simp [ratio_wide_compare.j1] at h⟩
 | k + 1 => by
  obtain ⟨ih0, ih1⟩ := ratio_wide_compare.mono_l k; refine ⟨?_, ?_⟩
  ·intro y0 y1 y2 y3 y4 y5 y6; unfold ratio_wide_compare.j0
   repeat' first
   | (with_reducible exact ih0 _ _ _ _ _ _ _)
   | (with_reducible exact ih1 _ _ _ _ _ _ _)
   | (with_reducible exact LeO.refl _)
   | (with_reducible exact LeO.none _)
   | (with_reducible refine LeO.ite ?_ ?_)
   | (with_reducible refine LeO.bind ?_ (fun _ => ?_))
   | exact ih0 _ _ _ _ _ _ _
   | exact ih1 _ _ _ _ _ _ _
   | exact LeO.none _
   | refine LeO.ite ?_ ?_
   | refine LeO.bind ?_ (fun _ => ?_)
  ·intro y0 y1 y2 y3 y4 y5 y6; unfold ratio_wide_compare.j1
   repeat' first
   | (with_reducible exact ih0 _ _ _ _ _ _ _)
   | (with_reducible exact ih1 _ _ _ _ _ _ _)
   | (with_reducible exact LeO.refl _)
   | (with_reducible exact LeO.none _)
   | (with_reducible refine LeO.ite ?_ ?_)
   | (with_reducible refine LeO.bind ?_ (fun _ => ?_))
   | exact ih0 _ _ _ _ _ _ _
   | exact ih1 _ _ _ _ _ _ _
   | exact LeO.none _
   | refine LeO.ite ?_ ?_
   | refine LeO.bind ?_ (fun _ => ?_)
theorem ratio_wide_compare.mono : ∀ a0 a1 a2 a3 a4 a5 k, LeO (ratio_wide_compare.f k a0 a1 a2 a3 a4 a5) (ratio_wide_compare.f (k + 1) a0 a1 a2 a3 a4 a5) := by
 intro a0 a1 a2 a3 a4 a5 k; obtain ⟨ih0, ih1⟩ := ratio_wide_compare.mono_l k; unfold ratio_wide_compare.f
 repeat' first
   | (with_reducible exact ih0 _ _ _ _ _ _ _)
   | (with_reducible exact ih1 _ _ _ _ _ _ _)
   | (with_reducible exact LeO.refl _)
   | (with_reducible exact LeO.none _)
   | (with_reducible refine LeO.ite ?_ ?_)
   | (with_reducible refine LeO.bind ?_ (fun _ => ?_))
   | exact ih0 _ _ _ _ _ _ _
   | exact ih1 _ _ _ _ _ _ _
   | exact LeO.none _
   | refine LeO.ite ?_ ?_
   | refine LeO.bind ?_ (fun _ => ?_)
set_option maxHeartbeats 8000000 in
set_option maxRecDepth 100000 in
theorem ratio_wide_compare.calls (k : Nat) (a0_0 : Bool) (a0_1 : Int) (a0_2 : Int) (a1_0 : Bool) (a1_1 : Int) (a1_2 : Int) (r : Int) (w : World) (h : ratio_wide_compare.f k a0_0 a0_1 a0_2 a1_0 a1_1 a1_2 = some r) :
  Calls Try.prog 59 #[.agg #[.bool a0_0, .int .u64 a0_1, .int .u64 a0_2], .agg #[.bool a1_0, .int .u64 a1_1, .int .u64 a1_2]] w fun e w' => e = .returned (.int .i64 r) ∧ Below w.heap.size w w' := by
 have hu58 := Try.underlying58; have HB := Aside0.mk (Below.refl w.heap.size w); have H : (if a0_1 = a1_1 then (ratio_wide_compare.j0 k false a0_0 a0_1 a0_2 a1_0 a1_1 a1_2) else (ratio_wide_compare.j0 k (decide (a0_1 < a1_1)) a0_0 a0_1 a0_2 a1_0 a1_1 a1_2)) = some r := h; clear h; have HC3 := Aside0.mk H; clear H; go_enter Try.func59, Try.ntmps59
 go_upto_region 1 with (first | ((with_reducible refine gate_dst (N := 2) rfl ?_); refine bx (N := 2) (cs := #[.bool a0_0, .int .u64 a0_1, .int .u64 a0_2]) (t := 58) ?_; intro gb442 hg w4 hbox hb; have BK442 := Aside0.mk (hbox); have GW442 := gs HB hg; have GE442 := gs HB hg; replace HB := wb HB hb; clear hb hbox hg) | ((with_reducible refine gate_dst (N := 3) rfl ?_); refine bx (N := 3) (cs := #[.bool a1_0, .int .u64 a1_1, .int .u64 a1_2]) (t := 58) ?_; intro gb443 hg w5 hbox hb; have BK443 := Aside0.mk (hbox); have GW443 := gs HB hg; have GE443 := gs HB hg; have NB442_443 := nl BK442 hg; have NB443_442 := nr BK442 hg; replace BK442 := kb BK442 hb; replace HB := wb HB hb; clear hb hbox hg))
 (try simp only [Act.put, List.setIfInBounds_toArray, List.set_cons_zero, List.set_cons_succ])
 go_cut [5] (fun v5 wc => ∃ (kq : Nat) (x5_2 : Bool), v5 = .bool x5_2 ∧ Aside0 (ratio_wide_compare.j0 kq x5_2 a0_0 a0_1 a0_2 a1_0 a1_1 a1_2 = some r) ∧ Aside0 (kq ≤ k) ∧ Aside0 (wc.heap[gb442]? = some (.cells #[.bool a0_0, .int .u64 a0_1, .int .u64 a0_2] 58 (0, 0))) ∧ Aside0 (wc.heap[gb443]? = some (.cells #[.bool a1_0, .int .u64 a1_1, .int .u64 a1_2] 58 (0, 0))) ∧ Aside0 (Below w.heap.size w wc))
 case first =>
  have H := HC3.out; clear HC3
  by_cases c6 : a0_1 = a1_1
  ·rw [if_pos c6] at H; have c6b0 : (a0_1 == a1_1) = true := beq_iff_eq.mpr c6; have c6b1 : (a0_1 != a1_1) = false := bne_eq_false_iff_eq.mpr c6; clear c6
   (first | rw [c6b0] | (simp only [i64_w, i32_w]; rw [c6b0]) | skip)
   have H' := Aside0.mk H; clear H; obtain ⟨hnb7, hnc7⟩ := n2 NB442_443; have hcz8_0 : w5.cell? ⟨gb442, 0, none⟩ = some (.bool a0_0) := bc BK442 0; have hcz8_1 : w5.cell? ⟨gb442, 1, none⟩ = some (.int .u64 a0_1) := bc BK442 1; have hcz8_2 : w5.cell? ⟨gb442, 2, none⟩ = some (.int .u64 a0_2) := bc BK442 2; have hfz8_0 := blk_frozen BK442.out 0; have hfz8_1 := blk_frozen BK442.out 1; have hfz8_2 := blk_frozen BK442.out 2; have hcz9_0 : w5.cell? ⟨gb443, 0, none⟩ = some (.bool a1_0) := bc BK443 0; have hcz9_1 : w5.cell? ⟨gb443, 1, none⟩ = some (.int .u64 a1_1) := bc BK443 1; have hcz9_2 : w5.cell? ⟨gb443, 2, none⟩ = some (.int .u64 a1_2) := bc BK443 2; have hfz9_0 := blk_frozen BK443.out 0; have hfz9_1 := blk_frozen BK443.out 1; have hfz9_2 := blk_frozen BK443.out 2; go_wp2
   go_meet
   case rel => exact ⟨_, (false), (by first | rfl | (simp; done) | (simp [*]; done)), H', ⟨by first | omega | exact Nat.le_refl _⟩, ⟨bq BK442⟩, ⟨bq BK443⟩, ⟨bw HB⟩⟩
  ·rw [if_neg c6] at H; have c6b0 : (a0_1 == a1_1) = false := beq_eq_false_iff_ne.mpr c6; have c6b1 : (a0_1 != a1_1) = true := bne_iff_ne.mpr c6
   (first | rw [c6b0] | (simp only [i64_w, i32_w]; rw [c6b0]) | skip)
   have H' := Aside0.mk H; clear H; obtain ⟨hnb10, hnc10⟩ := n2 NB442_443; have hcz11_0 : w5.cell? ⟨gb442, 0, none⟩ = some (.bool a0_0) := bc BK442 0; have hcz11_1 : w5.cell? ⟨gb442, 1, none⟩ = some (.int .u64 a0_1) := bc BK442 1; have hcz11_2 : w5.cell? ⟨gb442, 2, none⟩ = some (.int .u64 a0_2) := bc BK442 2; have hfz11_0 := blk_frozen BK442.out 0; have hfz11_1 := blk_frozen BK442.out 1; have hfz11_2 := blk_frozen BK442.out 2; have hcz12_0 : w5.cell? ⟨gb443, 0, none⟩ = some (.bool a1_0) := bc BK443 0; have hcz12_1 : w5.cell? ⟨gb443, 1, none⟩ = some (.int .u64 a1_1) := bc BK443 1; have hcz12_2 : w5.cell? ⟨gb443, 2, none⟩ = some (.int .u64 a1_2) := bc BK443 2; have hfz12_0 := blk_frozen BK443.out 0; have hfz12_1 := blk_frozen BK443.out 1; have hfz12_2 := blk_frozen BK443.out 2; go_wp2
   go_meet
   case rel => exact ⟨_, (decide (a0_1 < a1_1)), (by first | rfl | (simp; done) | (simp [*]; done)), H', ⟨by first | omega | exact Nat.le_refl _⟩, ⟨bq BK442⟩, ⟨bq BK443⟩, ⟨bw HB⟩⟩
 case rest =>
  clear HC3; (try clear c1); (try clear p2); (try clear c5); (try clear c6); (try clear c6b0); (try clear c6b1); (try clear c7); (try clear c10); (try clear hcz11_0); (try clear hcz11_1); (try clear hcz11_2); (try clear hcz12_0); (try clear hcz12_1); (try clear hcz12_2); (try clear hcz8_0); (try clear hcz8_1); (try clear hcz8_2); (try clear hcz9_0); (try clear hcz9_1); (try clear hcz9_2); (try clear hfz11_0); (try clear hfz11_1); (try clear hfz11_2); (try clear hfz12_0); (try clear hfz12_1); (try clear hfz12_2); (try clear hfz8_0); (try clear hfz8_1); (try clear hfz8_2); (try clear hfz9_0); (try clear hfz9_1); (try clear hfz9_2); obtain ⟨kq, x5_2, rfl, HA, HJ2, BK442, BK443, HB⟩ := hcut
  cases kq with
  | zero => exact absurd HA.out (by simp [ratio_wide_compare.j0])
  | succ kj2 =>
   have H := HA.out; clear HA; simp only [ratio_wide_compare.j0] at H; have HC13 := Aside0.mk H; clear H
   go_upto_if 5 with (fail)
   go_cut [5] (fun v5 wc => ∃ (kq : Nat) (x5_12 : Bool), v5 = .bool x5_12 ∧ Aside0 (ratio_wide_compare.j1 kq x5_12 a0_0 a0_1 a0_2 a1_0 a1_1 a1_2 = some r) ∧ Aside0 (kq ≤ kj2) ∧ Aside0 (wc.heap[gb442]? = some (.cells #[.bool a0_0, .int .u64 a0_1, .int .u64 a0_2] 58 (0, 0))) ∧ Aside0 (wc.heap[gb443]? = some (.cells #[.bool a1_0, .int .u64 a1_1, .int .u64 a1_2] 58 (0, 0))) ∧ Aside0 (Below w.heap.size w wc))
   case first =>
    have H := HC13.out; clear HC13
    by_cases c14 : x5_2 = true
    ·subst c14; (have H1 : (ratio_wide_compare.j1 kj2 true a0_0 a0_1 a0_2 a1_0 a1_1 a1_2) = some r := by rw [if_pos rfl] at H; exact H); clear H; have H := H1; clear H1; have H' := Aside0.mk H; clear H; go_wp2
     go_meet
     case rel => exact ⟨_, (true), (by first | rfl | (simp; done) | (simp [*]; done)), H', ⟨by have := HJ2.out; first | omega | exact Nat.le_refl _⟩, ⟨bq BK442⟩, ⟨bq BK443⟩, ⟨bw HB⟩⟩
    ·replace c14 := Bool.eq_false_iff.mpr c14; subst c14; (have H1 : (if a0_1 = a1_1 then (ratio_wide_compare.j1 kj2 (decide (a0_2 < a1_2)) a0_0 a0_1 a0_2 a1_0 a1_1 a1_2) else (ratio_wide_compare.j1 kj2 false a0_0 a0_1 a0_2 a1_0 a1_1 a1_2)) = some r := by rw [if_neg (show ¬ (false = true) by decide)] at H; exact H); clear H; have H := H1; clear H1
     by_cases c15 : a0_1 = a1_1
     ·rw [if_pos c15] at H; have c15b0 : (a0_1 == a1_1) = true := beq_iff_eq.mpr c15; have c15b1 : (a0_1 != a1_1) = false := bne_eq_false_iff_eq.mpr c15; clear c15
      (first | rw [c15b0] | (simp only [i64_w, i32_w]; rw [c15b0]) | skip)
      have H' := Aside0.mk H; clear H; obtain ⟨hnb16, hnc16⟩ := n2 NB442_443; have hcz17_0 : wc.cell? ⟨gb442, 0, none⟩ = some (.bool a0_0) := bc BK442 0; have hcz17_1 : wc.cell? ⟨gb442, 1, none⟩ = some (.int .u64 a0_1) := bc BK442 1; have hcz17_2 : wc.cell? ⟨gb442, 2, none⟩ = some (.int .u64 a0_2) := bc BK442 2; have hfz17_0 := blk_frozen BK442.out 0; have hfz17_1 := blk_frozen BK442.out 1; have hfz17_2 := blk_frozen BK442.out 2; have hcz18_0 : wc.cell? ⟨gb443, 0, none⟩ = some (.bool a1_0) := bc BK443 0; have hcz18_1 : wc.cell? ⟨gb443, 1, none⟩ = some (.int .u64 a1_1) := bc BK443 1; have hcz18_2 : wc.cell? ⟨gb443, 2, none⟩ = some (.int .u64 a1_2) := bc BK443 2; have hfz18_0 := blk_frozen BK443.out 0; have hfz18_1 := blk_frozen BK443.out 1; have hfz18_2 := blk_frozen BK443.out 2; go_wp2
      go_meet
      case rel => exact ⟨_, (decide (a0_2 < a1_2)), (by first | rfl | (simp; done) | (simp [*]; done)), H', ⟨by have := HJ2.out; first | omega | exact Nat.le_refl _⟩, ⟨bq BK442⟩, ⟨bq BK443⟩, ⟨bw HB⟩⟩
     ·rw [if_neg c15] at H; have c15b0 : (a0_1 == a1_1) = false := beq_eq_false_iff_ne.mpr c15; have c15b1 : (a0_1 != a1_1) = true := bne_iff_ne.mpr c15
      (first | rw [c15b0] | (simp only [i64_w, i32_w]; rw [c15b0]) | skip)
      have H' := Aside0.mk H; clear H; obtain ⟨hnb19, hnc19⟩ := n2 NB442_443; have hcz20_0 : wc.cell? ⟨gb442, 0, none⟩ = some (.bool a0_0) := bc BK442 0; have hcz20_1 : wc.cell? ⟨gb442, 1, none⟩ = some (.int .u64 a0_1) := bc BK442 1; have hcz20_2 : wc.cell? ⟨gb442, 2, none⟩ = some (.int .u64 a0_2) := bc BK442 2; have hfz20_0 := blk_frozen BK442.out 0; have hfz20_1 := blk_frozen BK442.out 1; have hfz20_2 := blk_frozen BK442.out 2; have hcz21_0 : wc.cell? ⟨gb443, 0, none⟩ = some (.bool a1_0) := bc BK443 0; have hcz21_1 : wc.cell? ⟨gb443, 1, none⟩ = some (.int .u64 a1_1) := bc BK443 1; have hcz21_2 : wc.cell? ⟨gb443, 2, none⟩ = some (.int .u64 a1_2) := bc BK443 2; have hfz21_0 := blk_frozen BK443.out 0; have hfz21_1 := blk_frozen BK443.out 1; have hfz21_2 := blk_frozen BK443.out 2; go_wp2
      go_meet
      case rel => exact ⟨_, (false), (by first | rfl | (simp; done) | (simp [*]; done)), H', ⟨by have := HJ2.out; first | omega | exact Nat.le_refl _⟩, ⟨bq BK442⟩, ⟨bq BK443⟩, ⟨bw HB⟩⟩
   case rest =>
    clear HC13; (try clear c1); (try clear p2); (try clear c5); (try clear c6); (try clear c6b0); (try clear c6b1); (try clear c7); (try clear c10); (try clear c14); (try clear c15); (try clear c15b0); (try clear c15b1); (try clear c16); (try clear c19); (try clear hcz11_0); (try clear hcz11_1); (try clear hcz11_2); (try clear hcz12_0); (try clear hcz12_1); (try clear hcz12_2); (try clear hcz17_0); (try clear hcz17_1); (try clear hcz17_2); (try clear hcz18_0); (try clear hcz18_1); (try clear hcz18_2); (try clear hcz20_0); (try clear hcz20_1); (try clear hcz20_2); (try clear hcz21_0); (try clear hcz21_1); (try clear hcz21_2); (try clear hcz8_0); (try clear hcz8_1); (try clear hcz8_2); (try clear hcz9_0); (try clear hcz9_1); (try clear hcz9_2); (try clear hfz11_0); (try clear hfz11_1); (try clear hfz11_2); (try clear hfz12_0); (try clear hfz12_1); (try clear hfz12_2); (try clear hfz17_0); (try clear hfz17_1); (try clear hfz17_2); (try clear hfz18_0); (try clear hfz18_1); (try clear hfz18_2); (try clear hfz20_0); (try clear hfz20_1); (try clear hfz20_2); (try clear hfz21_0); (try clear hfz21_1); (try clear hfz21_2); (try clear hfz8_0); (try clear hfz8_1); (try clear hfz8_2); (try clear hfz9_0); (try clear hfz9_1); (try clear hfz9_2); (try clear p2); obtain ⟨kq, x5_12, rfl, HA, HJ12, BK442, BK443, HB⟩ := hcut
    cases kq with
    | zero => exact absurd HA.out (by simp [ratio_wide_compare.j1])
    | succ kj12 =>
     have H := HA.out; clear HA; simp only [ratio_wide_compare.j1] at H
     by_cases c22 : x5_12 = true
     ·subst c22; (have H1 : (some (-1)) = some r := by rw [if_pos rfl] at H; exact H); clear H; have H := H1; clear H1; obtain rfl := Option.some.inj H; (go_wp2); (go_ret); exact ⟨by first | rfl | (simp [errW_none, errW_some] <;> rfl) | (simp [*, errW_none, errW_some] <;> rfl), bw HB⟩
     ·replace c22 := Bool.eq_false_iff.mpr c22; subst c22; (have H1 : (if a0_1 = a1_1 then (if a0_2 = a1_2 then (some 0) else (some 1)) else (some 1)) = some r := by rw [if_neg (show ¬ (false = true) by decide)] at H; exact H); clear H; have H := H1; clear H1
      by_cases c23 : a0_1 = a1_1
      ·rw [if_pos c23] at H; have c23b0 : (a0_1 == a1_1) = true := beq_iff_eq.mpr c23; have c23b1 : (a0_1 != a1_1) = false := bne_eq_false_iff_eq.mpr c23; clear c23
       by_cases c24 : a0_2 = a1_2
       ·rw [if_pos c24] at H; have c24b0 : (a0_2 == a1_2) = true := beq_iff_eq.mpr c24; have c24b1 : (a0_2 != a1_2) = false := bne_eq_false_iff_eq.mpr c24; clear c24; obtain rfl := Option.some.inj H; obtain ⟨hnb25, hnc25⟩ := n2 NB442_443; have hcz26_0 : wc.cell? ⟨gb442, 0, none⟩ = some (.bool a0_0) := bc BK442 0; have hcz26_1 : wc.cell? ⟨gb442, 1, none⟩ = some (.int .u64 a0_1) := bc BK442 1; have hcz26_2 : wc.cell? ⟨gb442, 2, none⟩ = some (.int .u64 a0_2) := bc BK442 2; have hfz26_0 := blk_frozen BK442.out 0; have hfz26_1 := blk_frozen BK442.out 1; have hfz26_2 := blk_frozen BK442.out 2; have hcz27_0 : wc.cell? ⟨gb443, 0, none⟩ = some (.bool a1_0) := bc BK443 0; have hcz27_1 : wc.cell? ⟨gb443, 1, none⟩ = some (.int .u64 a1_1) := bc BK443 1; have hcz27_2 : wc.cell? ⟨gb443, 2, none⟩ = some (.int .u64 a1_2) := bc BK443 2; have hfz27_0 := blk_frozen BK443.out 0; have hfz27_1 := blk_frozen BK443.out 1; have hfz27_2 := blk_frozen BK443.out 2; (go_wp2); (go_ret); exact ⟨by first | rfl | (simp [errW_none, errW_some] <;> rfl) | (simp [*, errW_none, errW_some] <;> rfl), bw HB⟩
       ·rw [if_neg c24] at H; have c24b0 : (a0_2 == a1_2) = false := beq_eq_false_iff_ne.mpr c24; have c24b1 : (a0_2 != a1_2) = true := bne_iff_ne.mpr c24; obtain rfl := Option.some.inj H; obtain ⟨hnb28, hnc28⟩ := n2 NB442_443; have hcz29_0 : wc.cell? ⟨gb442, 0, none⟩ = some (.bool a0_0) := bc BK442 0; have hcz29_1 : wc.cell? ⟨gb442, 1, none⟩ = some (.int .u64 a0_1) := bc BK442 1; have hcz29_2 : wc.cell? ⟨gb442, 2, none⟩ = some (.int .u64 a0_2) := bc BK442 2; have hfz29_0 := blk_frozen BK442.out 0; have hfz29_1 := blk_frozen BK442.out 1; have hfz29_2 := blk_frozen BK442.out 2; have hcz30_0 : wc.cell? ⟨gb443, 0, none⟩ = some (.bool a1_0) := bc BK443 0; have hcz30_1 : wc.cell? ⟨gb443, 1, none⟩ = some (.int .u64 a1_1) := bc BK443 1; have hcz30_2 : wc.cell? ⟨gb443, 2, none⟩ = some (.int .u64 a1_2) := bc BK443 2; have hfz30_0 := blk_frozen BK443.out 0; have hfz30_1 := blk_frozen BK443.out 1; have hfz30_2 := blk_frozen BK443.out 2; (go_wp2); (go_ret); exact ⟨by first | rfl | (simp [errW_none, errW_some] <;> rfl) | (simp [*, errW_none, errW_some] <;> rfl), bw HB⟩
      ·rw [if_neg c23] at H; have c23b0 : (a0_1 == a1_1) = false := beq_eq_false_iff_ne.mpr c23; have c23b1 : (a0_1 != a1_1) = true := bne_iff_ne.mpr c23; obtain rfl := Option.some.inj H; obtain ⟨hnb31, hnc31⟩ := n2 NB442_443; have hcz32_0 : wc.cell? ⟨gb442, 0, none⟩ = some (.bool a0_0) := bc BK442 0; have hcz32_1 : wc.cell? ⟨gb442, 1, none⟩ = some (.int .u64 a0_1) := bc BK442 1; have hcz32_2 : wc.cell? ⟨gb442, 2, none⟩ = some (.int .u64 a0_2) := bc BK442 2; have hfz32_0 := blk_frozen BK442.out 0; have hfz32_1 := blk_frozen BK442.out 1; have hfz32_2 := blk_frozen BK442.out 2; have hcz33_0 : wc.cell? ⟨gb443, 0, none⟩ = some (.bool a1_0) := bc BK443 0; have hcz33_1 : wc.cell? ⟨gb443, 1, none⟩ = some (.int .u64 a1_1) := bc BK443 1; have hcz33_2 : wc.cell? ⟨gb443, 2, none⟩ = some (.int .u64 a1_2) := bc BK443 2; have hfz33_0 := blk_frozen BK443.out 0; have hfz33_1 := blk_frozen BK443.out 1; have hfz33_2 := blk_frozen BK443.out 2; (go_wp2); (go_ret); exact ⟨by first | rfl | (simp [errW_none, errW_some] <;> rfl) | (simp [*, errW_none, errW_some] <;> rfl), bw HB⟩

end Go.Proofs.Ytcbohbeipgcfhaa.G
