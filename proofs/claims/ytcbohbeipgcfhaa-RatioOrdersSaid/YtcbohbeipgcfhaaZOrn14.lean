/- Texts of this claim laid together: MathO, MathW, PureRatioOrders. -/
import Derived.Test.YtcbohbeipgcfhaaZOrn13
import Derived.Test.YtcbohbeipgcfhaaApp
import Derived.Test.YtcbohbeipgcfhaaZOrn12
import Derived.Test.YtcbohbeipgcfhaaZOrn2
import Derived.Test.YtcbohbeipgcfhaaZOrn11
/- What the reduced sum denotes, and that the comparison is a total order that addition keeps. -/
namespace Go.Proofs.Ytcbohbeipgcfhaa.Mth
open Go.RowKit Go.Proofs.YtcbohbeipgcfhaaW.PrintWords Go.Proofs.YtcbohbeipgcfhaaW.PrintLast Go.Proofs.YtcbohbeipgcfhaaW.PrintMore
set_option linter.unusedVariables false

/-- a magnitude with its sign -/
def sgn (s : Bool) (n : Nat) : Int := if s then -(n : Int) else (n : Int)
theorem red_val {s : Bool} {n d : Nat} {u v : Int} (hd : 0 < d) (h : red s n d = (u, v, 0)) : u * (d : Int) = sgn s n * v := by
  have hn := Nat.div_mul_cancel (Nat.gcd_dvd_left n d)
  have hdd := Nat.div_mul_cancel (Nat.gcd_dvd_right n d)
  unfold red at h
  split at h
  · simp only [Prod.mk.injEq] at h
    obtain ⟨h2, h3, _⟩ := h
    subst h2
    subst h3
    obtain ⟨X, hX⟩ : ∃ X, n / Nat.gcd n d = X := ⟨_, rfl⟩
    obtain ⟨Y, hY⟩ : ∃ Y, d / Nat.gcd n d = Y := ⟨_, rfl⟩
    obtain ⟨G, hG⟩ : ∃ G, Nat.gcd n d = G := ⟨_, rfl⟩
    rw [hX, hG] at hn
    rw [hY, hG] at hdd
    rw [hX, hY]
    have e1 : (n : Int) = X * G := by rw [← hn, Int.natCast_mul]
    have e2 : (d : Int) = Y * G := by rw [← hdd, Int.natCast_mul]
    unfold sgn
    rw [e1, e2]
    cases s with
    | true => simp only [if_true]; grind
    | false => simp only [Bool.false_eq_true, if_false]; grind
  · simp at h
theorem tot_val (x : Bool) (a : Nat) (y : Bool) (b : Nat) : sgn (tot x a y b).1 (tot x a y b).2 = sgn x a + sgn y b := by
  by_cases h : x = y
  · rw [tot_same _ _ h]; subst h; unfold sgn; cases x <;> simp <;> omega
  · by_cases hl : b ≤ a
    · rw [tot_ge h hl]; unfold sgn; cases x <;> cases y <;> simp at h ⊢ <;> omega
    · rw [tot_lt h hl]; unfold sgn; cases x <;> cases y <;> simp at h ⊢ <;> omega
theorem sgn_mul {a d : Int} (hd : 0 ≤ d) : sgn (decide (a < 0)) (a.natAbs * d.natAbs) = a * d := by
  rw [signed a d hd]
  unfold sgn
  by_cases h : a < 0
  · rw [if_pos (decide_eq_true h), if_pos h]
  · rw [if_neg (by simpa using h), if_neg h]
theorem add_val {a b c d u v : Int} (h1 : okR a b) (h2 : okR c d) (h : addR a b c d = (u, v, 0)) : okR u v ∧ u * (b * d) = (a * d + c * b) * v := by
  have b1 := (ok_small h1).2.2.1
  have d1 := (ok_small h2).2.2.1
  unfold addR at h
  rw [if_pos ⟨h1, h2⟩] at h
  have p3 := mag_pos (a := b) (d := d) (by omega) (by omega)
  have hv := red_val p3 h
  rw [tot_val, sgn_mul (by omega), sgn_mul (by omega), Int.natCast_mul, show ((b.natAbs : Nat) : Int) = b from by omega, show ((d.natAbs : Nat) : Int) = d from by omega] at hv
  exact ⟨(red_ok p3 h).1, hv⟩
/-- two valid fractions of the same value are the same -/
theorem okR_inj {a b c d : Int} (h1 : okR a b) (h2 : okR c d) (h : a * d = c * b) : a = c ∧ b = d := by
  have b1 := (ok_small h1).2.2.1
  have d1 := (ok_small h2).2.2.1
  have hn : a.natAbs * d.natAbs = c.natAbs * b.natAbs := by rw [← Int.natAbs_mul, ← Int.natAbs_mul, h]
  have e1 : b.natAbs ∣ d.natAbs := Nat.Coprime.dvd_of_dvd_mul_left (by rw [Nat.coprime_comm]; exact h1.2) ⟨c.natAbs, by rw [hn, Nat.mul_comm]⟩
  have e2 : d.natAbs ∣ b.natAbs := Nat.Coprime.dvd_of_dvd_mul_left (by rw [Nat.coprime_comm]; exact h2.2) ⟨a.natAbs, by rw [← hn, Nat.mul_comm]⟩
  have e3 := Nat.dvd_antisymm e1 e2
  have e4 : b = d := by omega
  subst e4
  exact ⟨Int.eq_of_mul_eq_mul_right (show b ≠ 0 by omega) h, rfl⟩
theorem cmpR_of {a b c d : Int} (h1 : okR a b) (h2 : okR c d) : cmpR a b c d = if a * d < c * b then -1 else if a * d = c * b then 0 else 1 := by unfold cmpR; rw [if_pos ⟨h1, h2⟩]
theorem cmpR_neg {a b c d : Int} (h1 : okR a b) (h2 : okR c d) : cmpR a b c d = wrap64 (-(cmpR c d a b)) := by
  rw [cmpR_of h1 h2, cmpR_of h2 h1]
  obtain ⟨X, hX⟩ : ∃ X, a * d = X := ⟨_, rfl⟩
  obtain ⟨Y, hY⟩ : ∃ Y, c * b = Y := ⟨_, rfl⟩
  rw [hX, hY]; unfold wrap64
  repeat' (first | omega | split)
theorem cmpR_eq {a b c d : Int} (h1 : okR a b) (h2 : okR c d) : (cmpR a b c d == 0) = (a == c && (b == d)) := by
  rw [cmpR_of h1 h2, Bool.eq_iff_iff, beq_iff_eq, Bool.and_eq_true, beq_iff_eq, beq_iff_eq]
  constructor
  · intro h
    exact okR_inj h1 h2 (by repeat' (first | omega | split at h))
  · rintro ⟨rfl, rfl⟩
    rw [if_neg (by omega), if_pos rfl]
theorem cmpR_trans {a b c d e f : Int} (h1 : okR a b) (h2 : okR c d) (h3 : okR e f) (h : cmpR a b c d ≤ 0) (h' : cmpR c d e f ≤ 0) : cmpR a b e f ≤ 0 := by
  have b1 := (ok_small h1).2.2.1
  have d1 := (ok_small h2).2.2.1
  have f1 := (ok_small h3).2.2.1
  rw [cmpR_of h1 h2] at h
  rw [cmpR_of h2 h3] at h'
  rw [cmpR_of h1 h3]
  have g1 : a * d ≤ c * b := by repeat' (first | omega | split at h)
  have g2 : c * f ≤ e * d := by repeat' (first | omega | split at h')
  have k1 := Int.mul_le_mul_of_nonneg_right g1 (show 0 ≤ f by omega)
  have k2 := Int.mul_le_mul_of_nonneg_right g2 (show 0 ≤ b by omega)
  have k3 : d * (a * f) ≤ d * (e * b) := by
    rw [show d * (a * f) = a * d * f from by grind, show d * (e * b) = e * d * b from by grind]
    rw [show c * b * f = c * f * b from by grind] at k1
    omega
  have k4 : a * f ≤ e * b := Int.le_of_mul_le_mul_left k3 (by omega)
  repeat' (first | omega | split)
theorem scale_cmp {x y z w K L : Int} (hK : 0 < K) (hL : 0 < L) (h : (x - y) * K = L * (z - w)) : (x < y ↔ z < w) ∧ (x = y ↔ z = w) := by
  have a1 : x < y → (x - y) * K < 0 := fun h => Int.mul_neg_of_neg_of_pos (by omega) hK
  have a2 : y < x → 0 < (x - y) * K := fun h => Int.mul_pos (by omega) hK
  have a3 : x = y → (x - y) * K = 0 := fun h => by rw [h, Int.sub_self, Int.zero_mul]
  have b1 : z < w → L * (z - w) < 0 := fun h => Int.mul_neg_of_pos_of_neg hL (by omega)
  have b2 : w < z → 0 < L * (z - w) := fun h => Int.mul_pos hL (by omega)
  have b3 : z = w → L * (z - w) = 0 := fun h => by rw [h, Int.sub_self, Int.mul_zero]
  rw [h] at a1 a2 a3
  obtain ⟨V, hV⟩ : ∃ V, L * (z - w) = V := ⟨_, rfl⟩
  rw [hV] at a1 a2 a3 b1 b2 b3
  omega
theorem cmpR_add {a b c d e f u v p q : Int} (h1 : okR a b) (h2 : okR c d) (h3 : okR e f) (hx : addR a b e f = (u, v, 0)) (hy : addR c d e f = (p, q, 0)) : cmpR u v p q = cmpR a b c d := by
  have b1 := (ok_small h1).2.2.1
  have d1 := (ok_small h2).2.2.1
  have f1 := (ok_small h3).2.2.1
  obtain ⟨o1, e1⟩ := add_val h1 h3 hx
  obtain ⟨o2, e2⟩ := add_val h2 h3 hy
  have v1 := (ok_small o1).2.2.1
  have q1 := (ok_small o2).2.2.1
  rw [cmpR_of h1 h2, cmpR_of o1 o2]
  have key : (u * q - p * v) * (b * f * (d * f)) = (v * q * (f * f)) * (a * d - c * b) := by grind
  obtain ⟨k1, k2⟩ := scale_cmp (Int.mul_pos (Int.mul_pos (by omega) (by omega)) (Int.mul_pos (by omega) (by omega))) (Int.mul_pos (Int.mul_pos (by omega) (by omega)) (Int.mul_pos (by omega) (by omega))) key
  simp only [k1, k2]
end Go.Proofs.Ytcbohbeipgcfhaa.Mth

/- The examples of the chapter: what every law asks beside its own matter. -/
namespace Go.Proofs.Ytcbohbeipgcfhaa.Mth
open Go.RowKit Go.Proofs.Ytcbohbeipgcfhaa.G Go.Proofs.Ytcbohbeipgcfhaa.Given Go.Proofs.YtcbohbeipgcfhaaW.PrintWords Go.Proofs.YtcbohbeipgcfhaaW.PrintLast Go.Proofs.YtcbohbeipgcfhaaW.PrintMore
theorem app_ex : ratio_Apportion.f 3 [5, 3, 0] = some ([2, 1, 0], 0) := by decide +kernel
theorem awake_ev : Ev (fun k => awardingbodylaw01_awake.f k) true := by
  have h := rnew_ev (a := 6) (b := -4) (by unfold I64; omega) (by unfold I64; omega)
  rw [show newR 6 (-4) = (-3, 2, 0) from by decide +kernel] at h
  refine Ev.congr (fun k => by unfold awardingbodylaw01_awake.f; rfl) ?_
  refine Ev.bind h ?_
  refine ev_some (fun k => ?_)
  rw [app_ex]
  decide
/-- a law's last step: the chapter's examples -/
theorem awake_end : Ev (fun k => (awardingbodylaw01_awake.f k).bind fun t => some t) true := Ev.bind (f := fun _ t => some t) awake_ev (Ev.now _)
end Go.Proofs.Ytcbohbeipgcfhaa.Mth

/- RatioOrders: for every tape the comparison of the drawn fractions is a total order that addition keeps. -/
namespace Go.Proofs.Ytcbohbeipgcfhaa.Pure
open Go.RowKit Go.Proofs.Ytcbohbeipgcfhaa.G Go.Proofs.Ytcbohbeipgcfhaa.Mth Go.Proofs.YtcbohbeipgcfhaaW.PrintWords Go.Proofs.YtcbohbeipgcfhaaW.PrintLast
theorem orders1 {a b c d e f : Int} (h1 : okR a b) (h2 : okR c d) (h3 : okR e f) : Ev (fun k => awardingbodylaw01_RatioOrders.j1 k false a b c d e f) true := by
  obtain ⟨u, v, w, hx⟩ : ∃ u v w, addR a b e f = (u, v, w) := ⟨_, _, _, rfl⟩
  obtain ⟨p, q, r, hy⟩ : ∃ u v w, addR c d e f = (u, v, w) := ⟨_, _, _, rfl⟩
  have r1 := radd_ev a b e f
  have r2 := radd_ev c d e f
  rw [hx] at r1
  rw [hy] at r2
  refine Ev.step (fun k => by simp only [awardingbodylaw01_RatioOrders.j1]; rw [if_neg (by simp)]) (Ev.bind r1 (Ev.bind r2 ?_))
  by_cases hw : w = 0
  · by_cases hr : r = 0
    · subst hw
      subst hr
      refine Ev.congr (fun k => by rw [if_pos rfl, if_pos rfl]) (Ev.bind (rcompare_ev u v p q) (Ev.bind (rcompare_ev a b c d) (Ev.congr (fun k => ?_) awake_end)))
      rw [if_pos (cmpR_add h1 h2 h3 hx hy)]
    · exact Ev.congr (fun k => by rw [if_pos hw, if_neg hr]) awake_end
  · exact Ev.congr (fun k => by rw [if_neg hw]) awake_end
theorem RatioOrders : awardingbodylaw01_RatioOrders.Pure := by
  intro l _ _ hl
  obtain ⟨t, e0, h0⟩ := new_ok hl
  obtain ⟨a, b, p1, e1, h1, o1⟩ := ratio_ok h0
  obtain ⟨c, d, p2, e2, h2, o2⟩ := ratio_ok h1
  obtain ⟨e, f, p3, e3, h3, o3, _, _⟩ := small_ok h2
  have h : Ev (fun k => awardingbodylaw01_RatioOrders.f k l) true := by
    refine Ev.congr (fun k => by unfold awardingbodylaw01_RatioOrders.f; rw [e0, Option.bind_some]) ?_
    refine Ev.bind e1 ?_
    refine Ev.bind e2 ?_
    refine Ev.bind e3 ?_
    refine Ev.bind (rcompare_ev a b c d) ?_
    refine Ev.bind (rcompare_ev c d a b) ?_
    refine Ev.congr (fun k => by rw [if_pos (cmpR_neg o1 o2)]) ?_
    refine Ev.bind (rcompare_ev a b c d) ?_
    refine Ev.congr (f := fun k => awardingbodylaw01_RatioOrders.j0 k ((cmpR a b c d == 0) != (a == c && (b == d))) a b c d e f) (fun k => rfl) ?_
    rw [cmpR_eq o1 o2, bne_self_eq_false]
    refine Ev.step (fun k => by simp only [awardingbodylaw01_RatioOrders.j0]; rw [if_neg (by simp)]) ?_
    refine Ev.bind (rcompare_ev a b c d) ?_
    by_cases g1 : cmpR a b c d ≤ 0
    · refine Ev.congr (fun k => by rw [if_pos g1]) ?_
      refine Ev.bind (rcompare_ev c d e f) ?_
      by_cases g2 : cmpR c d e f ≤ 0
      · refine Ev.congr (fun k => by rw [if_pos g2]) ?_
        refine Ev.bind (rcompare_ev a b e f) ?_
        have g3 := cmpR_trans o1 o2 o3 g1 g2
        refine Ev.congr (fun k => by rw [show decide (cmpR a b e f > 0) = false from decide_eq_false (by omega)]) (orders1 o1 o2 o3)
      · exact Ev.congr (fun k => by rw [if_neg g2]) (orders1 o1 o2 o3)
    · exact Ev.congr (fun k => by rw [if_neg g1]) (orders1 o1 o2 o3)
  obtain ⟨K, hK⟩ := h
  exact ⟨K, hK K (Nat.le_refl _)⟩
end Go.Proofs.Ytcbohbeipgcfhaa.Pure
