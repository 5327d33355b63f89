/- Texts of this claim laid together: MathA, MathDiv, MathDivB, MathC, Gf48, Gf39, Gf42, Gf36, MathD, Gf71. -/
import Derived.Test.YtbapkiclgkddcaaDoorShortC
import Derived.Test.YtbapkiclgkddcaaDoorZPn1
import Derived.Test.YtbapkiclgkddcaaDoorZPn2
import Derived.Test.YtbapkiclgkddcaaDoorZPn4
import Derived.Test.YtbapkiclgkddcaaDoorZPn3
import Derived.Test.YtbapkiclgkddcaaDoorG0
import Derived.Test.YtbapkiclgkddcaaDoorZPn5
import Derived.Test.YtbapkiclgkddcaaDoorGe1
import Derived.Laws.Bits64b
/- Plain arithmetic, proved for all natural numbers in the stated bounds: division of a number of two digits by schoolbook quotient digits (Knuth's step), and long division bit by bit. -/
namespace Go.Proofs.YtbapkiclgkddcaaDoor.Mth

/-- What the loop of a quotient digit keeps: u = q v1 + r, q not below the true digit, q small. -/
structure Kn (v1 v0 u d q r : Nat) : Prop where
  e : u = q * v1 + r
  ge : (u * 4294967296 + d) / (v1 * 4294967296 + v0) ≤ q
  le : q ≤ 4294967296 + 1
  v1lo : 2147483648 ≤ v1
  v1hi : v1 < 4294967296
  v0hi : v0 < 4294967296
  uhi : u < v1 * 4294967296 + v0
  dhi : d < 4294967296

theorem Kn.start {v1 v0 u d : Nat} (v1lo : 2147483648 ≤ v1) (v1hi : v1 < 4294967296) (v0hi : v0 < 4294967296) (uhi : u < v1 * 4294967296 + v0) (dhi : d < 4294967296) :
    Kn v1 v0 u d (u / v1) (u % v1) := by
  refine ⟨?_, ?_, ?_, v1lo, v1hi, v0hi, uhi, dhi⟩
  · rw [Nat.mul_comm]; exact (Nat.div_add_mod u v1).symm
  · -- Q ≤ u / v1
    (have hv : 0 < v1 := by omega); rw [Nat.le_div_iff_mul_le hv]; have h1 : (u * 4294967296 + d) / (v1 * 4294967296 + v0) * (v1 * 4294967296 + v0) ≤ u * 4294967296 + d := Nat.div_mul_le_self _ _; (generalize (u * 4294967296 + d) / (v1 * 4294967296 + v0) = Q at *); (have h2 : Q * (v1 * 4294967296 + v0) = Q * v1 * 4294967296 + Q * v0 := by rw [Nat.mul_add, Nat.mul_assoc]); rw [h2] at h1
    have : Q * v1 * 4294967296 < (u + 1) * 4294967296 := by
      have : (u + 1) * 4294967296 = u * 4294967296 + 4294967296 := Nat.succ_mul _ _; omega
    have := Nat.lt_of_mul_lt_mul_right this; omega
  · have hv : 0 < v1 := by omega
    have : u / v1 < 4294967296 + 2 := by
      rw [Nat.div_lt_iff_lt_mul hv]; (have : (4294967296 + 2) * v1 = v1 * 4294967296 + 2 * v1 := by rw [Nat.add_mul, Nat.mul_comm]); omega
    omega

theorem Kn.q_lt {v1 v0 u d q r : Nat} (h : Kn v1 v0 u d q r) : (u * 4294967296 + d) / (v1 * 4294967296 + v0) < 4294967296 := by
  (have hv : 0 < v1 * 4294967296 + v0 := by have := h.uhi; omega); rw [Nat.div_lt_iff_lt_mul hv]; have h1 : (u + 1) * 4294967296 ≤ (v1 * 4294967296 + v0) * 4294967296 := Nat.mul_le_mul_right _ h.uhi; have h2 : (u + 1) * 4294967296 = u * 4294967296 + 4294967296 := Nat.succ_mul _ _; have := h.dhi; omega

theorem Kn.qv {v1 v0 u d q r : Nat} (h : Kn v1 v0 u d q r) : q * (v1 * 4294967296 + v0) = u * 4294967296 - r * 4294967296 + q * v0 ∧ r * 4294967296 ≤ u * 4294967296 := by
  (have h2 : q * (v1 * 4294967296 + v0) = q * v1 * 4294967296 + q * v0 := by rw [Nat.mul_add, Nat.mul_assoc]); (have h3 : u * 4294967296 = q * v1 * 4294967296 + r * 4294967296 := by rw [h.e, Nat.add_mul]); omega

/-- the digit is too great -/
theorem Kn.next {v1 v0 u d q r : Nat} (h : Kn v1 v0 u d q r) (ht : 4294967296 ≤ q ∨ 4294967296 * r + d < q * v0) : 1 ≤ q ∧ Kn v1 v0 u d (q - 1) (r + v1) := by
  have hlt : (u * 4294967296 + d) / (v1 * 4294967296 + v0) < q := by
    rcases ht with ht | ht
    · exact Nat.lt_of_lt_of_le h.q_lt ht
    · have hv : 0 < v1 * 4294967296 + v0 := by have := h.uhi; omega
      rw [Nat.div_lt_iff_lt_mul hv]; have := h.qv; omega
  have hq : 1 ≤ q := Nat.lt_of_le_of_lt (Nat.zero_le _) hlt; refine ⟨hq, ?_, by omega, by have := h.le; omega, h.v1lo, h.v1hi, h.v0hi, h.uhi, h.dhi⟩; have := h.e; obtain ⟨q', rfl⟩ : ∃ q', q = q' + 1 := ⟨q - 1, by omega⟩; rw [Nat.add_sub_cancel]; rw [Nat.succ_mul] at this; omega

theorem Kn.done {v1 v0 u d q r : Nat} (h : Kn v1 v0 u d q r) (ht : q * v0 ≤ 4294967296 * r + d) : q = (u * 4294967296 + d) / (v1 * 4294967296 + v0) := by
  have hv : 0 < v1 * 4294967296 + v0 := by have := h.uhi; omega
  have : q ≤ (u * 4294967296 + d) / (v1 * 4294967296 + v0) := by
    rw [Nat.le_div_iff_mul_le hv]; have := h.qv; omega
  have := h.ge; omega

theorem Kn.qv0 {v1 v0 u d q r : Nat} (h : Kn v1 v0 u d q r) : q * v0 < 18446744073709551616 := by
  have h1 : q * v0 ≤ (4294967296 + 1) * (4294967296 - 1) := Nat.mul_le_mul h.le (by have := h.v0hi; omega); omega

theorem Kn.brk {v1 v0 u d q r : Nat} (h : Kn v1 v0 u d q r) (hr : 4294967296 ≤ r) : q * v0 ≤ 4294967296 * r + d := by
  have h1 : q * v0 ≤ (4294967296 + 1) * (4294967296 - 1) := Nat.mul_le_mul h.le (by have := h.v0hi; omega); have h2 : 4294967296 * 4294967296 ≤ 4294967296 * r := Nat.mul_le_mul_left _ hr; omega

theorem digits_two' (B : Nat) {V u d1 d0 q1 m : Nat} (hV : 0 < V) (e : V * q1 + m = u * B + d1) :
    (u * (B * B) + (d1 * B + d0)) / V = q1 * B + (m * B + d0) / V ∧ (u * (B * B) + (d1 * B + d0)) % V = (m * B + d0) % V := by
  have e2 : u * (B * B) + (d1 * B + d0) = V * (q1 * B) + (m * B + d0) := by
    (have : (V * q1 + m) * B = (u * B + d1) * B := by rw [e]); rw [Nat.add_mul, Nat.add_mul, Nat.mul_assoc, Nat.mul_assoc] at this; omega
  refine ⟨?_, ?_⟩
  · rw [e2, Nat.mul_add_div hV]
  · rw [e2, Nat.mul_add_mod]
/-- The two digits together. -/
theorem digits_two {V u d1 d0 q1 m : Nat} (hV : 0 < V) (e : V * q1 + m = u * 4294967296 + d1) :
    (u * 18446744073709551616 + (d1 * 4294967296 + d0)) / V = q1 * 4294967296 + (m * 4294967296 + d0) / V ∧ (u * 18446744073709551616 + (d1 * 4294967296 + d0)) % V = (m * 4294967296 + d0) % V :=
  digits_two' 4294967296 hV e

/-- Scaling by s. -/
theorem unscale {N y s q r : Nat} (hq : q = (N * 2 ^ s) / (y * 2 ^ s)) (hr : r = (N * 2 ^ s) % (y * 2 ^ s)) : q = N / y ∧ r / 2 ^ s = N % y := by
  have hs : 0 < 2 ^ s := Nat.pow_pos (by decide); rw [Nat.mul_div_mul_right _ _ hs] at hq; rw [Nat.mul_mod_mul_right] at hr; rw [hr, Nat.mul_div_cancel _ hs]; exact ⟨hq, rfl⟩
end Go.Proofs.YtbapkiclgkddcaaDoor.Mth

/- math/bits.Div64 and Rem64 as the printed functions compute them: quotient and remainder of a number of 128 bits, for a divisor greater than the upper half (Div64) and for each divisor that is not 0 (Rem64). -/
namespace Go.Proofs.YtbapkiclgkddcaaDoor.Mth
open Go.RowKit Go.Proofs.YtbapkiclgkddcaaDoor.G Go.Proofs.YtbapkiclgkddcaaDoor.Given Go.Proofs.YtbapkiclgkddcaaDoorW.PrintWords Go.Proofs.YtbapkiclgkddcaaDoorW.PrintLast Go.Proofs.YtbapkiclgkddcaaDoorW.PrintMore
set_option linter.unusedVariables false

theorem wu (n : Int) : IntKind.u64.wrap n = n % 18446744073709551616 := IntKind.wrap_u64 n
theorem evk {α : Type} {g : Nat → Option α} {f : Nat → Option α} {r : α} (h : ∀ k, g (k + 1) = f k) (k : Ev f r) : Ev g r := Ev.step h k
theorem ev_some {α : Type} {g : Nat → Option α} {r : α} (h : ∀ k, g (k + 1) = some r) : Ev g r := Ev.step h (Ev.now r)

/-- What the second digit's loop ends in. -/
theorem fin_val {V s v1 v0 d q1 r u q : Nat} (hV : V = v1 * 4294967296 + v0) (hK : Kn v1 v0 u d q r) (hq1 : q1 < 4294967296) (hs : s ≤ 64) (hq : q = (u * 4294967296 + d) / V) :
    (some (IntKind.u64.wrap ((IntKind.u64.wrap ((q1 : Int) * 4294967296)) + (q : Int)), shr .u64 (IntKind.u64.wrap ((IntKind.u64.wrap ((IntKind.u64.wrap ((u : Int) * 4294967296)) + (d : Int))) - (IntKind.u64.wrap ((q : Int) * (V : Int))))) (s : Int)) : Option (Int × Int))
      = some (((q1 * 4294967296 + q : Nat) : Int), (((u * 4294967296 + d) % V / 2 ^ s : Nat) : Int)) := by
  have hlt := hK.q_lt; rw [← hV, ← hq] at hlt; (have hVp : 0 < V := by have := hK.uhi; omega); have hm : (u * 4294967296 + d) % V < V := Nat.mod_lt _ hVp; have he := Nat.div_add_mod (u * 4294967296 + d) V; rw [← hq] at he; have hc := Nat.mul_comm V q; have hv1 := hK.v1hi; have hv0 := hK.v0hi
  have e1 : IntKind.u64.wrap ((IntKind.u64.wrap ((q1 : Int) * 4294967296)) + (q : Int)) = ((q1 * 4294967296 + q : Nat) : Int) := by
    simp only [wu]; omega
  have e2 : IntKind.u64.wrap ((IntKind.u64.wrap ((IntKind.u64.wrap ((u : Int) * 4294967296)) + (d : Int))) - (IntKind.u64.wrap ((q : Int) * (V : Int)))) = (((u * 4294967296 + d) % V : Nat) : Int) := by
    have e3 : (q : Int) * (V : Int) = ((q * V : Nat) : Int) := (Int.natCast_mul q V).symm; rw [e3]; (generalize (u * 4294967296 + d) % V = m at *); (generalize q * V = P at *); simp only [wu]; omega
  rw [e1, e2]; unfold shr; rw [show min (s : Int).toNat IntKind.u64.bits = s from by simp [IntKind.bits]; omega]; rfl

theorem l1_ev {V s v1 v0 d q1 u : Nat} (hV : V = v1 * 4294967296 + v0) (hq1 : q1 < 4294967296) (hs : s ≤ 64) : ∀ q r, Kn v1 v0 u d q r → r < 4294967296 →
    Ev (fun k => bits_Div64.l1 k V s v1 v0 d q1 r u q) (((q1 * 4294967296 + (u * 4294967296 + d) / V : Nat) : Int), (((u * 4294967296 + d) % V / 2 ^ s : Nat) : Int)) := by
  intro q
  induction q with
  | zero =>
    intro r hK hr; (have hd : 0 = (u * 4294967296 + d) / V := by rw [hV]; exact hK.done (by omega)); refine Ev.step (f := fun k => bits_Div64.j4 k V s v1 v0 d q1 r u (0 : Nat) false) (fun k => ?_) (ev_some (fun k => ?_))
    · simp only [bits_Div64.l1]
      rw [if_neg (by omega)]
      congr 1
      have := hK.dhi; simp only [wu, decide_eq_false_iff_not]; omega
    · simp only [bits_Div64.j4]
      rw [if_neg (by decide), if_pos (by omega)]; have := fin_val (s := s) hV hK hq1 hs hd; rw [← hd]; exact this
  | succ q ih =>
    intro r hK hr; have hv0 := hK.v0hi; have hd' := hK.dhi; have hP := hK.qv0; have hle := hK.le
    by_cases ht : 4294967296 ≤ q + 1 ∨ 4294967296 * r + d < (q + 1) * v0
    · have hj : ∀ k, bits_Div64.l1 (k + 1) V s v1 v0 d q1 r u (q + 1 : Nat) = bits_Div64.j4 k V s v1 v0 d q1 r u (q + 1 : Nat) true := by
        intro k; simp only [bits_Div64.l1]
        by_cases h1 : 4294967296 ≤ q + 1
        · rw [if_pos (by omega)]
        · rw [if_neg (by omega)]
          congr 1
          (have ht2 : 4294967296 * r + d < (q + 1) * v0 := by rcases ht with h | h; exact absurd h h1; exact h); rw [show ((q + 1 : Nat) : Int) * (v0 : Int) = (((q + 1) * v0 : Nat) : Int) from (Int.natCast_mul _ _).symm]; (generalize (q + 1) * v0 = P at *); simp only [wu, decide_eq_true_eq]; omega
      obtain ⟨_, hK'⟩ := hK.next ht; rw [Nat.add_sub_cancel] at hK'; have hv1 := hK.v1hi
      by_cases hb : 4294967296 ≤ r + v1
      · have hd := hK'.done (hK'.brk hb)
        rw [← hV] at hd; refine Ev.step hj (ev_some (fun k => ?_)); simp only [bits_Div64.j4]; rw [if_pos trivial, if_pos (by simp only [wu]; omega), if_pos (by omega)]; have := fin_val (s := s) hV hK' hq1 hs hd; rw [show IntKind.u64.wrap (((q + 1 : Nat) : Int) - 1) = (q : Int) from by simp only [wu]; omega]; rw [← hd]; exact this
      · refine Ev.step hj (Ev.step (fun k => ?_) (ih (r + v1) hK' (by omega)))
        simp only [bits_Div64.j4]; rw [if_pos trivial, if_neg (by simp only [wu]; omega)]; rw [show IntKind.u64.wrap (((q + 1 : Nat) : Int) - 1) = (q : Int) from by simp only [wu]; omega]; rw [show IntKind.u64.wrap ((r : Int) + (v1 : Int)) = ((r + v1 : Nat) : Int) from by simp only [wu]; omega]
    · have hn : (q + 1) * v0 ≤ 4294967296 * r + d := by omega
      have hd := hK.done hn; rw [← hV] at hd; refine Ev.step (f := fun k => bits_Div64.j4 k V s v1 v0 d q1 r u (q + 1 : Nat) false) (fun k => ?_) (ev_some (fun k => ?_))
      · simp only [bits_Div64.l1]
        rw [if_neg (by omega)]
        congr 1
        rw [show ((q + 1 : Nat) : Int) * (v0 : Int) = (((q + 1) * v0 : Nat) : Int) from (Int.natCast_mul _ _).symm]; (generalize (q + 1) * v0 = P at *); simp only [wu, decide_eq_false_iff_not]; omega
      · simp only [bits_Div64.j4]
        rw [if_neg (by decide), if_pos (by omega)]; have := fin_val (s := s) hV hK hq1 hs hd; rw [← hd]; exact this

theorem j2_ev' {V s v1 v0 d1 d0 q1 u m : Nat} (hV : V = v1 * 4294967296 + v0) (hs : s ≤ 64) (v1lo : 2147483648 ≤ v1) (v1hi : v1 < 4294967296) (v0hi : v0 < 4294967296) (d1hi : d1 < 4294967296) (d0hi : d0 < 4294967296) (uhi : u < V) (hq1 : q1 < 4294967296) (he : V * q1 + m = u * 4294967296 + d1) (hm : m < V) :
    Ev (fun k => bits_Div64.j2 k V s v1 v0 u d1 d0 q1) (((q1 * 4294967296 + (m * 4294967296 + d0) / V : Nat) : Int), (((m * 4294967296 + d0) % V / 2 ^ s : Nat) : Int)) := by
  have hVp : 0 < V := by omega
  have e2 : IntKind.u64.wrap ((IntKind.u64.wrap ((IntKind.u64.wrap ((u : Int) * 4294967296)) + (d1 : Int))) - (IntKind.u64.wrap ((q1 : Int) * (V : Int)))) = (m : Int) := by
    (have e3 : (q1 : Int) * (V : Int) = ((V * q1 : Nat) : Int) := by rw [Nat.mul_comm]; exact (Int.natCast_mul q1 V).symm); rw [e3]; obtain ⟨P, hP⟩ : ∃ P, V * q1 = P := ⟨_, rfl⟩; rw [hP] at he ⊢; simp only [wu]; omega
  have hK := Kn.start (u := m) (d := d0) v1lo v1hi v0hi (by omega) d0hi; have hmq : m / v1 ≤ 4294967297 := hK.le; refine Ev.step (fun k => ?_) (l1_ev hV hq1 hs _ _ hK (by have := Nat.mod_lt m (show 0 < v1 by omega); omega)); simp only [bits_Div64.j2]; rw [if_neg (by omega), e2]; have e4 : Int.tdiv (m : Int) (v1 : Int) = ((m / v1 : Nat) : Int) := rfl
  have e5 : IntKind.u64.wrap (((m / v1 : Nat) : Int)) = ((m / v1 : Nat) : Int) := by
    obtain ⟨Q, hQ⟩ : ∃ Q, m / v1 = Q := ⟨_, rfl⟩; rw [hQ] at hmq ⊢; simp only [wu]; omega
  rw [e4, e5]
  have e6 : IntKind.u64.wrap ((m : Int) - IntKind.u64.wrap (((m / v1 : Nat) : Int) * (v1 : Int))) = ((m % v1 : Nat) : Int) := by
    have h1 := Nat.div_add_mod m v1; (have h2 : ((m / v1 : Nat) : Int) * (v1 : Int) = ((v1 * (m / v1) : Nat) : Int) := by rw [Nat.mul_comm]; exact (Int.natCast_mul _ _).symm); rw [h2]; obtain ⟨P, hP⟩ : ∃ P, v1 * (m / v1) = P := ⟨_, rfl⟩; rw [hP] at h1 ⊢; simp only [wu]; omega
  rw [e6]

/-- The first digit's loop, and the second behind it. -/
theorem j2_ev {V s v1 v0 d1 d0 q1 u : Nat} (hV : V = v1 * 4294967296 + v0) (hs : s ≤ 64) (v1lo : 2147483648 ≤ v1) (v1hi : v1 < 4294967296) (v0hi : v0 < 4294967296) (d1hi : d1 < 4294967296) (d0hi : d0 < 4294967296) (uhi : u < V) (hq1 : q1 < 4294967296) (hd : q1 = (u * 4294967296 + d1) / V) :
    Ev (fun k => bits_Div64.j2 k V s v1 v0 u d1 d0 q1) (((u * 18446744073709551616 + (d1 * 4294967296 + d0)) / V : Nat), (((u * 18446744073709551616 + (d1 * 4294967296 + d0)) % V / 2 ^ s : Nat) : Int)) := by
  (have hVp : 0 < V := by omega); have he := Nat.div_add_mod (u * 4294967296 + d1) V; rw [← hd] at he; obtain ⟨a, b⟩ := digits_two (d0 := d0) hVp he; rw [a, b]; exact j2_ev' hV hs v1lo v1hi v0hi d1hi d0hi uhi hq1 he (Nat.mod_lt _ hVp)

theorem l0_ev {V s v1 v0 d1 d0 u : Nat} (hV : V = v1 * 4294967296 + v0) (hs : s ≤ 64) (v1lo : 2147483648 ≤ v1) (v1hi : v1 < 4294967296) (v0hi : v0 < 4294967296) (d1hi : d1 < 4294967296) (d0hi : d0 < 4294967296) (uhi : u < V) :
    ∀ q r, Kn v1 v0 u d1 q r → r < 4294967296 →
    Ev (fun k => bits_Div64.l0 k V s v1 v0 u d1 d0 q r) (((u * 18446744073709551616 + (d1 * 4294967296 + d0)) / V : Nat), (((u * 18446744073709551616 + (d1 * 4294967296 + d0)) % V / 2 ^ s : Nat) : Int)) := by
  have hend : ∀ q r, Kn v1 v0 u d1 q r → q = (u * 4294967296 + d1) / V → Ev (fun k => bits_Div64.j2 k V s v1 v0 u d1 d0 q) (((u * 18446744073709551616 + (d1 * 4294967296 + d0)) / V : Nat), (((u * 18446744073709551616 + (d1 * 4294967296 + d0)) % V / 2 ^ s : Nat) : Int)) := by
    intro q r hK hd; have hl := hK.q_lt; rw [← hV, ← hd] at hl; exact j2_ev hV hs v1lo v1hi v0hi d1hi d0hi uhi hl hd
  intro q
  induction q with
  | zero =>
    intro r hK hr; (have hd : 0 = (u * 4294967296 + d1) / V := by rw [hV]; exact hK.done (by omega)); refine Ev.step (f := fun k => bits_Div64.j1 k V s v1 v0 u d1 d0 (0 : Nat) r false) (fun k => ?_) (Ev.step (fun k => ?_) (hend 0 r hK hd))
    · simp only [bits_Div64.l0]
      rw [if_neg (by omega)]
      congr 1
      simp only [wu, decide_eq_false_iff_not]; omega
    · simp only [bits_Div64.j1]
      rw [if_neg (by decide)]
  | succ q ih =>
    intro r hK hr; have hP := hK.qv0; have hle := hK.le
    by_cases ht : 4294967296 ≤ q + 1 ∨ 4294967296 * r + d1 < (q + 1) * v0
    · have hj : ∀ k, bits_Div64.l0 (k + 1) V s v1 v0 u d1 d0 (q + 1 : Nat) r = bits_Div64.j1 k V s v1 v0 u d1 d0 (q + 1 : Nat) r true := by
        intro k; simp only [bits_Div64.l0]
        by_cases h1 : 4294967296 ≤ q + 1
        · rw [if_pos (by omega)]
        · rw [if_neg (by omega)]
          congr 1
          (have ht2 : 4294967296 * r + d1 < (q + 1) * v0 := by rcases ht with h | h; exact absurd h h1; exact h); rw [show ((q + 1 : Nat) : Int) * (v0 : Int) = (((q + 1) * v0 : Nat) : Int) from (Int.natCast_mul _ _).symm]; (generalize (q + 1) * v0 = P at *); simp only [wu, decide_eq_true_eq]; omega
      obtain ⟨_, hK'⟩ := hK.next ht; rw [Nat.add_sub_cancel] at hK'
      by_cases hb : 4294967296 ≤ r + v1
      · have hd := hK'.done (hK'.brk hb)
        rw [← hV] at hd; refine Ev.step hj (Ev.step (fun k => ?_) (hend q _ hK' hd)); simp only [bits_Div64.j1]; rw [if_pos trivial, if_pos (by simp only [wu]; omega)]; rw [show IntKind.u64.wrap (((q + 1 : Nat) : Int) - 1) = (q : Int) from by simp only [wu]; omega]
      · refine Ev.step hj (Ev.step (fun k => ?_) (ih (r + v1) hK' (by omega)))
        simp only [bits_Div64.j1]; rw [if_pos trivial, if_neg (by simp only [wu]; omega)]; rw [show IntKind.u64.wrap (((q + 1 : Nat) : Int) - 1) = (q : Int) from by simp only [wu]; omega]; rw [show IntKind.u64.wrap ((r : Int) + (v1 : Int)) = ((r + v1 : Nat) : Int) from by simp only [wu]; omega]
    · have hn : (q + 1) * v0 ≤ 4294967296 * r + d1 := by omega
      have hd := hK.done hn; rw [← hV] at hd; refine Ev.step (f := fun k => bits_Div64.j1 k V s v1 v0 u d1 d0 (q + 1 : Nat) r false) (fun k => ?_) (Ev.step (fun k => ?_) (hend (q + 1) r hK hd))
      · simp only [bits_Div64.l0]
        rw [if_neg (by omega)]
        congr 1
        rw [show ((q + 1 : Nat) : Int) * (v0 : Int) = (((q + 1) * v0 : Nat) : Int) from (Int.natCast_mul _ _).symm]; (generalize (q + 1) * v0 = P at *); simp only [wu, decide_eq_false_iff_not]; omega
      · simp only [bits_Div64.j1]
        rw [if_neg (by decide)]

theorem bitLen_two (y : Nat) (h0 : 0 < y) (h : y < 18446744073709551616) : 2 ^ (Lib.bitLen y - 1) ≤ y ∧ y < 2 ^ Lib.bitLen y ∧ 1 ≤ Lib.bitLen y ∧ Lib.bitLen y ≤ 64 := by
  have main : ∀ (f x : Nat), 0 < x → x < 2 ^ f → 2 ^ (Lib.bitLenAux f x - 1) ≤ x ∧ x < 2 ^ Lib.bitLenAux f x ∧ 1 ≤ Lib.bitLenAux f x ∧ Lib.bitLenAux f x ≤ f := by
    intro f
    induction f with
    | zero => intro x h0 h; simp at h; omega
    | succ f ih =>
      intro x h0 h; simp only [Lib.bitLenAux]; rw [if_neg (by omega)]
      by_cases hx : x / 2 = 0
      · rw [hx]
        (have : Lib.bitLenAux f 0 = 0 := by cases f <;> simp [Lib.bitLenAux]); rw [this]; (have : x = 1 := by omega); subst this; exact ⟨by decide, by decide, by omega, by omega⟩
      · obtain ⟨a, b, c, d⟩ := ih (x / 2) (by omega) (by rw [Nat.pow_succ] at h; omega)
        refine ⟨?_, ?_, by omega, by omega⟩
        · obtain ⟨n, hn⟩ : ∃ n, Lib.bitLenAux f (x / 2) = n + 1 := ⟨_, (Nat.sub_add_cancel c).symm⟩
          rw [hn] at a ⊢; rw [show 1 + (n + 1) - 1 = n + 1 from by omega, Nat.pow_succ]; rw [Nat.add_sub_cancel] at a; omega
        · rw [Nat.add_comm, Nat.pow_succ]; omega
  exact main 64 y h0 h
end Go.Proofs.YtbapkiclgkddcaaDoor.Mth

/- math/bits.Div64 and Rem64, whole: quotient and remainder of a number of 128 bits, for a divisor greater than the upper half (Div64) and for each divisor that is not 0 (Rem64). -/
namespace Go.Proofs.YtbapkiclgkddcaaDoor.Mth
open Go.RowKit Go.Proofs.YtbapkiclgkddcaaDoor.G Go.Proofs.YtbapkiclgkddcaaDoor.Given Go.Proofs.YtbapkiclgkddcaaDoorW.PrintWords Go.Proofs.YtbapkiclgkddcaaDoorW.PrintLast Go.Proofs.YtbapkiclgkddcaaDoorW.PrintMore
set_option linter.unusedVariables false

theorem maskN (a : Nat) (ha : a < 18446744073709551616) : Go.bits .and .u64 (a : Int) 4294967295 = ((a % 4294967296 : Nat) : Int) := by
  have h := bits_and_u64_nat a 4294967295 ha (by omega); have e : a &&& 4294967295 = a % 4294967296 := Nat.and_two_pow_sub_one_eq_mod a 32; rw [e] at h; exact h

theorem shl_nat (a s P : Nat) (hs : s ≤ 64) (hP : 2 ^ s = P) : shl .u64 (a : Int) (s : Int) = ((a * P % 18446744073709551616 : Nat) : Int) := by
  unfold shl; rw [show min (s : Int).toNat IntKind.u64.bits = s from by simp [IntKind.bits]; omega]; rw [wu]; (have : ((a : Int) * 2 ^ s) = ((a * P : Nat) : Int) := by rw [← hP]; simp); rw [this]; rfl
theorem shr_nat (a s P : Nat) (hs : s ≤ 64) (hP : 2 ^ s = P) : shr .u64 (a : Int) (s : Int) = ((a / P : Nat) : Int) := by
  unfold shr; rw [show min (s : Int).toNat IntKind.u64.bits = s from by simp [IntKind.bits]; omega]; (have : ((2 : Int) ^ s) = ((P : Nat) : Int) := by rw [← hP]; simp); rw [this]; rfl

theorem scale_split (hi lo P R : Nat) (hPR : R * P = 18446744073709551616) (hP : 0 < P) :
    (hi * 18446744073709551616 + lo) * P = (hi * P + lo / R) * 18446744073709551616 + lo * P % 18446744073709551616 := by
  (have h1 : lo * P / 18446744073709551616 = lo / R := by rw [← hPR]; exact Nat.mul_div_mul_right _ _ hP); have h2 := Nat.div_add_mod (lo * P) 18446744073709551616; rw [h1] at h2; (have h3 : (hi * 18446744073709551616 + lo) * P = hi * P * 18446744073709551616 + lo * P := by rw [Nat.add_mul, Nat.mul_right_comm]); rw [h3]; obtain ⟨X, hX⟩ : ∃ X, lo * P = X := ⟨_, rfl⟩; obtain ⟨Z, hZ⟩ : ∃ Z, lo / R = Z := ⟨_, rfl⟩; rw [hX, hZ] at h2; rw [hX, hZ]; omega

theorem or_add (a b P s : Nat) (hP : 2 ^ s = P) (hb : b < P) (h : a * P + b < 18446744073709551616) : Go.bits .or .u64 ((a * P : Nat) : Int) (b : Int) = ((a * P + b : Nat) : Int) := by
  rw [bits_or_u64_nat (a * P) b (by omega) (by omega)]
  have : a * P ||| b = a * P + b := by
    rw [← hP] at hb ⊢; rw [Nat.mul_comm]; exact (Nat.two_pow_add_eq_or_of_lt hb a).symm
  rw [this]

theorem div64_ev (hi lo y : Nat) (hy : y < 18446744073709551616) (hlo : lo < 18446744073709551616) (h : hi < y) :
    Ev (fun k => bits_Div64.f k hi lo y) (((hi * 18446744073709551616 + lo) / y : Nat), (((hi * 18446744073709551616 + lo) % y : Nat) : Int)) := by
  by_cases h0 : hi = 0
  · subst h0
    rw [Nat.zero_mul, Nat.zero_add]; refine Ev.congr (fun k => ?_) (Ev.now _); unfold bits_Div64.f; rw [if_neg (by omega), if_neg (by omega), if_pos (by rfl)]; have e4 : Int.tdiv (lo : Int) (y : Int) = ((lo / y : Nat) : Int) := rfl; have e5 : Int.tmod (lo : Int) (y : Int) = ((lo % y : Nat) : Int) := rfl; have hle : lo / y ≤ lo := Nat.div_le_self _ _; rw [e4, e5]; obtain ⟨Q, hQ⟩ : ∃ Q, lo / y = Q := ⟨_, rfl⟩; rw [hQ] at hle ⊢; rw [show IntKind.u64.wrap (Q : Int) = (Q : Int) from by simp only [wu]; omega]
  · obtain ⟨b1, b2, b3, b4⟩ := bitLen_two y (by omega) hy
    obtain ⟨n, hn⟩ : ∃ n, Lib.bitLen y = n := ⟨_, rfl⟩
    have hlz : bits_LeadingZeros64.f (y : Int) = some (((64 - n : Nat) : Int)) := by
      unfold bits_LeadingZeros64.f bits_Len64.f; rw [if_pos (by omega), Option.bind_some]; rw [show ((y : Int).toNat) = y from by omega, hn]; rw [hn] at b4; rw [show wrap64 (64 - (n : Int)) = ((64 - n : Nat) : Int) from by unfold wrap64; omega]
    rw [hn] at b1 b2 b3 b4; obtain ⟨s, hs⟩ : ∃ s, 64 - n = s := ⟨_, rfl⟩; rw [hs] at hlz; obtain ⟨P, hP⟩ : ∃ P, 2 ^ s = P := ⟨_, rfl⟩; obtain ⟨R, hR⟩ : ∃ R, 2 ^ (64 - s) = R := ⟨_, rfl⟩; have hP0 : 0 < P := by rw [← hP]; exact Nat.pow_pos (by decide)
    have hPR : R * P = 18446744073709551616 := by
      rw [← hP, ← hR, ← Nat.pow_add, show 64 - s + s = 64 from by omega]
    have hyP : y * P < 18446744073709551616 := by
      rw [← hPR]; refine Nat.mul_lt_mul_of_pos_right ?_ hP0; rw [← hR, show 64 - s = n from by omega]; exact b2
    have hyP2 : 9223372036854775808 ≤ y * P := by
      (have : 2 ^ (n - 1) * 2 ^ s ≤ y * P := by rw [hP]; exact Nat.mul_le_mul_right _ b1); rw [← Nat.pow_add, show n - 1 + s = 63 from by omega] at this; exact this
    have hhiP : (hi + 1) * P ≤ y * P := Nat.mul_le_mul_right _ h; rw [Nat.succ_mul] at hhiP
    have hloR : lo / R < P := by
      rw [Nat.div_lt_iff_lt_mul (by rw [← hR]; exact Nat.pow_pos (by decide)), Nat.mul_comm, hPR]; exact hlo
    have hsp := scale_split hi lo P R hPR hP0; obtain ⟨V, hV⟩ : ∃ V, y * P = V := ⟨_, rfl⟩; obtain ⟨u, hu⟩ : ∃ u, hi * P + lo / R = u := ⟨_, rfl⟩; obtain ⟨t, ht⟩ : ∃ t, lo * P % 18446744073709551616 = t := ⟨_, rfl⟩; (have htb : t < 18446744073709551616 := by rw [← ht]; exact Nat.mod_lt _ (by decide)); (have eV : shl .u64 (y : Int) (s : Int) = (V : Int) := by rw [shl_nat y s P (by omega) hP, hV, Nat.mod_eq_of_lt (by omega)]); (have eHi : shl .u64 (hi : Int) (s : Int) = ((hi * P : Nat) : Int) := by rw [shl_nat hi s P (by omega) hP, Nat.mod_eq_of_lt (by omega)]); (have eLo : shl .u64 (lo : Int) (s : Int) = (t : Int) := by rw [shl_nat lo s P (by omega) hP, ht]); (have ew : IntKind.u64.wrap (s : Int) = (s : Int) := by simp only [wu]; omega); (have ew2 : IntKind.u64.wrap (64 - (s : Int)) = ((64 - s : Nat) : Int) := by simp only [wu]; omega); have eR : shr .u64 (lo : Int) ((64 - s : Nat) : Int) = ((lo / R : Nat) : Int) := shr_nat lo (64 - s) R (by omega) hR
    have eU : Go.bits .or .u64 ((hi * P : Nat) : Int) ((lo / R : Nat) : Int) = (u : Int) := by
      rw [or_add hi (lo / R) P s hP hloR (by omega), hu]
    rw [hV] at hyP hyP2 hhiP; (have huV : u < V := by omega); rw [hu, ht] at hsp; (have hVs : V = (V / 4294967296) * 4294967296 + V % 4294967296 := by omega); (have hv1 : 2147483648 ≤ V / 4294967296 := by omega); have hK := Kn.start (v1 := V / 4294967296) (v0 := V % 4294967296) (u := u) (d := t / 4294967296) hv1 (by omega) (by omega) (by omega) (by omega); (have hr : u % (V / 4294967296) < 4294967296 := by have := Nat.mod_lt u (show 0 < V / 4294967296 by omega); omega); have hev := l0_ev (V := V) (s := s) (d1 := t / 4294967296) (d0 := t % 4294967296) hVs (by omega) hv1 (by omega) (by omega) (by omega) (by omega) huV _ _ hK hr; rw [show t / 4294967296 * 4294967296 + t % 4294967296 = t from by omega, ← hsp] at hev; obtain ⟨r1, r2⟩ := unscale (N := hi * 18446744073709551616 + lo) (y := y) (s := s) (q := (hi * 18446744073709551616 + lo) * P / V) (r := (hi * 18446744073709551616 + lo) * P % V) (by rw [hP, hV]) (by rw [hP, hV]); rw [r1, r2] at hev; refine Ev.congr (fun k => ?_) hev; unfold bits_Div64.f; rw [if_neg (by omega), if_neg (by omega), if_neg (by omega), hlz, Option.bind_some]; rw [ew, if_pos (by omega), ew2, if_pos (by omega), eV, if_neg (by omega), eHi, eLo, eR, eU, maskN V (by omega), maskN t (by omega)]; (have e4 : ((V : Int) / 4294967296) = ((V / 4294967296 : Nat) : Int) := by omega); (have e5 : ((t : Int) / 4294967296) = ((t / 4294967296 : Nat) : Int) := by omega); rw [e4, e5]; obtain ⟨v1, hv1e⟩ : ∃ v1, V / 4294967296 = v1 := ⟨_, rfl⟩; rw [hv1e] at hK hr hv1 ⊢; have e6 : Int.tdiv (u : Int) (v1 : Int) = ((u / v1 : Nat) : Int) := rfl; rw [e6]; have hq := hK.le; have hdm := Nat.div_add_mod u v1; obtain ⟨Q, hQ⟩ : ∃ Q, u / v1 = Q := ⟨_, rfl⟩; rw [hQ] at hq hdm ⊢; rw [show IntKind.u64.wrap (Q : Int) = (Q : Int) from by simp only [wu]; omega]
    rw [show IntKind.u64.wrap ((u : Int) - IntKind.u64.wrap ((Q : Int) * (v1 : Int))) = ((u % v1 : Nat) : Int) from by
      rw [show (Q : Int) * (v1 : Int) = ((v1 * Q : Nat) : Int) from by rw [Nat.mul_comm]; exact (Int.natCast_mul _ _).symm]; obtain ⟨T, hT⟩ : ∃ T, v1 * Q = T := ⟨_, rfl⟩; obtain ⟨M, hM⟩ : ∃ M, u % v1 = M := ⟨_, rfl⟩; rw [hT, hM] at hdm; rw [hT, hM]; have hM2 : M ≤ u := by rw [← hM]; exact Nat.mod_le _ _
      simp only [wu]; omega]

theorem rem64_ev (hi lo y : Nat) (hy : y < 18446744073709551616) (hlo : lo < 18446744073709551616) (h : 0 < y) :
    Ev (fun k => bits_Rem64.f k hi lo y) (((hi * 18446744073709551616 + lo) % y : Nat) : Int) := by
  have hd := div64_ev (hi % y) lo y hy hlo (Nat.mod_lt _ h)
  have e : (hi % y * 18446744073709551616 + lo) % y = (hi * 18446744073709551616 + lo) % y := by
    rw [Nat.add_mod, Nat.mul_mod, Nat.mod_mod, ← Nat.mul_mod, ← Nat.add_mod]
  rw [e] at hd; refine Ev.congr (fun k => ?_) (Ev.bind (f := fun _ b => some b.2) hd (Ev.now _)); unfold bits_Rem64.f; rw [if_neg (by omega)]; rfl
end Go.Proofs.YtbapkiclgkddcaaDoor.Mth

/- The reference's arithmetic on numbers of 128 bits, as the printed functions compute it: doubling, sum, difference, comparison, long division, greatest common divisor: for all numbers below 2^128 (a divisor that is not 0). -/
namespace Go.Proofs.YtbapkiclgkddcaaDoor.Mth
open Go.RowKit Go.Proofs.YtbapkiclgkddcaaDoor.G Go.Proofs.YtbapkiclgkddcaaDoor.Given Go.Proofs.YtbapkiclgkddcaaDoorW.PrintWords Go.Proofs.YtbapkiclgkddcaaDoorW.PrintLast Go.Proofs.YtbapkiclgkddcaaDoorW.PrintMore
set_option linter.unusedVariables false

/-- the upper and the lower half of a number -/
def hi (n : Nat) : Int := ((n / 18446744073709551616 : Nat) : Int)
def lo (n : Nat) : Int := ((n % 18446744073709551616 : Nat) : Int)

theorem gcd_ev : ∀ b a : Nat, Ev (fun k => ratio_gcd.f k a b) ((Nat.gcd a b : Nat) : Int) := by
  intro b
  induction b using Nat.strongRecOn with
  | _ b ih =>
    intro a
    by_cases h : b = 0
    · subst h
      refine ev_some (fun k => ?_); simp only [ratio_gcd.f, ratio_gcd.l0]; rw [if_pos (by rfl), Nat.gcd_zero_right]
    · have hlt : a % b < b := Nat.mod_lt _ (by omega)
      have := ih (a % b) hlt b; rw [show Nat.gcd a b = Nat.gcd b (a % b) from by rw [Nat.gcd_comm a b, Nat.gcd_rec b a, Nat.gcd_comm]]; refine Ev.step (fun k => ?_) this; simp only [ratio_gcd.f, ratio_gcd.l0]; rw [if_neg (by omega)]; rfl

theorem twice_eq (n : Nat) (h : n < 340282366920938463463374607431768211456) : r1_Twice.f (hi n) (lo n) = some (hi (2 * n % 340282366920938463463374607431768211456), lo (2 * n % 340282366920938463463374607431768211456)) := by
  unfold r1_Twice.f; obtain ⟨H, hH⟩ : ∃ H, n / 18446744073709551616 = H := ⟨_, rfl⟩; obtain ⟨L, hL⟩ : ∃ L, n % 18446744073709551616 = L := ⟨_, rfl⟩
  have e1 : IntKind.u64.wrap (hi n * 2) = ((H % 9223372036854775808 * 2 : Nat) : Int) := by
    unfold hi; rw [hH, wu]; omega
  have e2 : lo n / 9223372036854775808 = ((L / 9223372036854775808 : Nat) : Int) := by unfold lo; rw [hL]; omega
  have e3 : IntKind.u64.wrap (lo n * 2) = lo (2 * n % 340282366920938463463374607431768211456) := by
    unfold lo; rw [wu]; omega
  rw [e1, e2, e3, or_add (H % 9223372036854775808) (L / 9223372036854775808) 2 1 rfl (by omega) (by omega)]
  have e4 : ((H % 9223372036854775808 * 2 + L / 9223372036854775808 : Nat) : Int) = hi (2 * n % 340282366920938463463374607431768211456) := by
    unfold hi; omega
  rw [e4]

theorem minus_eq (a b : Nat) (ha : a < 340282366920938463463374607431768211456) (hb : b < 340282366920938463463374607431768211456) :
    r1_Minus.f (hi a) (lo a) (hi b) (lo b) = some (hi ((a + 340282366920938463463374607431768211456 - b) % 340282366920938463463374607431768211456), lo ((a + 340282366920938463463374607431768211456 - b) % 340282366920938463463374607431768211456)) := by
  unfold r1_Minus.f bits_Sub64.f; rw [if_pos (by unfold lo; omega), Option.bind_some]; dsimp only; rw [if_pos (by unfold hi; split <;> omega), Option.bind_some]; simp only [Option.some.injEq, Prod.mk.injEq]; unfold hi lo; constructor
  · split <;> omega
  · omega

theorem plus_eq (a b : Nat) (ha : a < 340282366920938463463374607431768211456) (hb : b < 340282366920938463463374607431768211456) :
    r1_Plus.f (hi a) (lo a) (hi b) (lo b) = some (hi ((a + b) % 340282366920938463463374607431768211456), lo ((a + b) % 340282366920938463463374607431768211456)) := by
  unfold r1_Plus.f bits_Add64.f; rw [if_pos (by unfold lo; omega), Option.bind_some]; dsimp only; rw [if_pos (by unfold hi lo; omega), Option.bind_some]; simp only [Option.some.injEq, Prod.mk.injEq]; unfold hi lo; constructor <;> omega

theorem hl_eq {a b : Nat} : hi a = hi b → lo a = lo b → a = b := by unfold hi lo; omega
theorem order_ev (a b : Nat) : Ev (fun k => r1_Order.f k (hi a) (lo a) (hi b) (lo b)) (if a < b then (-1 : Int) else if a = b then 0 else 1) := by
  have key : Ev (fun k => r1_Order.j0 k (decide (a < b)) (hi a) (lo a) (hi b) (lo b)) (if a < b then (-1 : Int) else if a = b then 0 else 1) := by
    refine ev_some (fun k => ?_); simp only [r1_Order.j0, decide_eq_true_eq]
    by_cases h : a < b
    · rw [if_pos h, if_pos h]
    · rw [if_neg h, if_neg h]
      by_cases e : a = b
      · subst e; simp
      · rw [if_neg e, if_neg]
        intro hc; simp only [Bool.and_eq_true, beq_iff_eq] at hc; exact e (hl_eq hc.1 hc.2)
  refine Ev.congr (fun k => ?_) key; unfold r1_Order.f
  by_cases h1 : hi a < hi b
  · rw [if_pos h1]
    congr 1
    symm; rw [decide_eq_true_eq]; unfold hi at h1; omega
  · rw [if_neg h1]
    by_cases h2 : hi a = hi b
    · rw [if_pos h2]
      congr 1
      rw [decide_eq_decide]; unfold hi at h2; unfold lo; omega
    · rw [if_neg h2]
      congr 1
      symm; rw [decide_eq_false_iff_not]; unfold hi at h1 h2; omega

theorem bit_lo (N i : Nat) (hi' : i < 64) : N % 18446744073709551616 / 2 ^ i % 2 = N / 2 ^ i % 2 := by
  have h := Nat.testBit_mod_two_pow N 64 i; rw [show decide (i < 64) = true from decide_eq_true hi', Bool.true_and] at h; rw [Nat.testBit_eq_decide_div_mod_eq, Nat.testBit_eq_decide_div_mod_eq, decide_eq_decide] at h
  change (N % 18446744073709551616 / 2 ^ i % 2 = 1 ↔ _) at h
  obtain ⟨X, hX⟩ : ∃ X, N % 18446744073709551616 / 2 ^ i = X := ⟨_, rfl⟩; obtain ⟨Y, hY⟩ : ∃ Y, N / 2 ^ i = Y := ⟨_, rfl⟩; rw [hX, hY] at h ⊢; omega
theorem bit_hi (N i : Nat) (hi' : 64 ≤ i) : N / 18446744073709551616 / 2 ^ (i - 64) = N / 2 ^ i := by
  rw [Nat.div_div_eq_div_mul]
  have : 18446744073709551616 * 2 ^ (i - 64) = 2 ^ i := by
    rw [show (18446744073709551616 : Nat) = 2 ^ 64 from rfl, ← Nat.pow_add, show 64 + (i - 64) = i from by omega]
  rw [this]
theorem and_one (a : Nat) (ha : a < 18446744073709551616) : Go.bits .and .u64 (a : Int) 1 = ((a % 2 : Nat) : Int) := by
  have h := bits_and_u64_nat a 1 ha (by omega); rw [Nat.and_one_is_mod] at h; exact h

/-- One round, from the doubled rest with its new bit. -/
theorem dstep_ev (N D Q R b i : Nat) (hN : N < 340282366920938463463374607431768211456) (hD : D < 340282366920938463463374607431768211456) (hD0 : 0 < D) (hQ : Q < 170141183460469231731687303715884105728) (hR : R < D) (hb : b ≤ 1) {r : Int × Int × Int × Int}
    (h : Ev (fun k => r1_Divide.l0 k ((i : Int) - 1) (hi N) (lo N) (hi D) (lo D) (hi (if D ≤ 2 * R + b then 2 * Q + 1 else 2 * Q)) (lo (if D ≤ 2 * R + b then 2 * Q + 1 else 2 * Q)) (hi (if D ≤ 2 * R + b then 2 * R + b - D else 2 * R + b)) (lo (if D ≤ 2 * R + b then 2 * R + b - D else 2 * R + b))) r) (hi' : i < 128) :
    Ev (fun k => r1_Divide.j2 k (i : Int) (b : Int) (hi N) (lo N) (hi D) (lo D) (hi Q) (lo Q) (hi R) (lo R)) r := by
  have t1 := twice_eq R (by omega); have t2 := twice_eq Q (by omega); obtain ⟨X, hX⟩ : ∃ X, 2 * R % 340282366920938463463374607431768211456 = X := ⟨_, rfl⟩; rw [hX] at t1; rw [show 2 * Q % 340282366920938463463374607431768211456 = 2 * Q from by omega] at t2
  have eo1 : Go.bits .or .u64 (lo X) (b : Int) = lo (X + b) := by
    have := or_add (X % 18446744073709551616 / 2) b 2 1 rfl (by omega) (by omega); rw [show X % 18446744073709551616 / 2 * 2 = X % 18446744073709551616 from by omega] at this; unfold lo; rw [this]; omega
  have eh1 : hi X = hi (X + b) := by unfold hi; omega
  have eo2 : Go.bits .or .u64 (lo (2 * Q)) 1 = lo (2 * Q + 1) := by
    have := or_add (2 * Q % 18446744073709551616 / 2) 1 2 1 rfl (by omega) (by omega); rw [show 2 * Q % 18446744073709551616 / 2 * 2 = 2 * Q % 18446744073709551616 from by omega] at this; unfold lo; exact this.trans (by omega)
  (have eh2 : hi (2 * Q) = hi (2 * Q + 1) := by unfold hi; omega); (have ei : wrap64 ((i : Int) - 1) = (i : Int) - 1 := by unfold wrap64; omega); have hm := minus_eq (X + b) D (by omega) hD
  by_cases hov : 340282366920938463463374607431768211456 ≤ 2 * R
  · rw [if_pos (by omega), if_pos (by omega)] at h
    refine Ev.step (fun k => ?_) h; simp only [r1_Divide.j2]; rw [t1, t2, Option.bind_some, Option.bind_some]; dsimp only; rw [if_pos (by unfold hi; omega), eo1, eh1, hm, Option.bind_some, ei]; dsimp only; rw [eo2, eh2, show (X + b + 340282366920938463463374607431768211456 - D) % 340282366920938463463374607431768211456 = 2 * R + b - D from by omega]
  · have ho := order_ev (X + b) D
    by_cases hge : D ≤ 2 * R + b
    · rw [if_pos hge, if_pos hge] at h
      rw [if_neg (show ¬ X + b < D by omega)] at ho; obtain ⟨c, hc⟩ : ∃ c : Int, (if X + b = D then (0 : Int) else 1) = c := ⟨_, rfl⟩; rw [hc] at ho; (have hc0 : c ≥ 0 := by rw [← hc]; split <;> decide); (have hsub : (X + b + 340282366920938463463374607431768211456 - D) % 340282366920938463463374607431768211456 = 2 * R + b - D := by omega); rw [← hsub] at h; refine Ev.step (f := fun k => (r1_Order.f k (hi (X + b)) (lo (X + b)) (hi D) (lo D)).bind fun t => if t ≥ 0 then r1_Divide.l0 k ((i : Int) - 1) (hi N) (lo N) (hi D) (lo D) (hi (2 * Q + 1)) (lo (2 * Q + 1)) (hi ((X + b + 340282366920938463463374607431768211456 - D) % 340282366920938463463374607431768211456)) (lo ((X + b + 340282366920938463463374607431768211456 - D) % 340282366920938463463374607431768211456)) else r1_Divide.l0 k ((i : Int) - 1) (hi N) (lo N) (hi D) (lo D) (hi (2 * Q)) (lo (2 * Q)) (hi (X + b)) (lo (X + b))) (fun k => ?_) (Ev.bind ho (Ev.congr (fun k => if_pos hc0) h)); simp only [r1_Divide.j2]; rw [t1, t2, Option.bind_some, Option.bind_some]; dsimp only; rw [if_neg (by unfold hi; omega), eo1, eh1, hm, ei, eo2, ← eh2]; rfl
    · rw [if_neg hge, if_neg hge] at h
      (have hXR : X = 2 * R := by omega); rw [← hXR] at h; rw [if_pos (show X + b < D by omega)] at ho; refine Ev.step (f := fun k => (r1_Order.f k (hi (X + b)) (lo (X + b)) (hi D) (lo D)).bind fun t => if t ≥ 0 then r1_Divide.l0 k ((i : Int) - 1) (hi N) (lo N) (hi D) (lo D) (hi (2 * Q + 1)) (lo (2 * Q + 1)) (hi ((X + b + 340282366920938463463374607431768211456 - D) % 340282366920938463463374607431768211456)) (lo ((X + b + 340282366920938463463374607431768211456 - D) % 340282366920938463463374607431768211456)) else r1_Divide.l0 k ((i : Int) - 1) (hi N) (lo N) (hi D) (lo D) (hi (2 * Q)) (lo (2 * Q)) (hi (X + b)) (lo (X + b))) (fun k => ?_) (Ev.bind ho (Ev.congr (fun k => if_neg (by decide)) h)); simp only [r1_Divide.j2]; rw [t1, t2, Option.bind_some, Option.bind_some]; dsimp only; rw [if_neg (by unfold hi; omega), eo1, eh1, hm, ei, eo2, ← eh2]; rfl

theorem div_step (M D b : Nat) (hD0 : 0 < D) (hb : b ≤ 1) : (2 * M + b) / D = (if D ≤ 2 * (M % D) + b then 2 * (M / D) + 1 else 2 * (M / D)) ∧ (2 * M + b) % D = (if D ≤ 2 * (M % D) + b then 2 * (M % D) + b - D else 2 * (M % D) + b) := by
  have e := Nat.div_add_mod M D; have hr := Nat.mod_lt M hD0; obtain ⟨Q, hQ⟩ : ∃ Q, M / D = Q := ⟨_, rfl⟩; obtain ⟨R, hR⟩ : ∃ R, M % D = R := ⟨_, rfl⟩; rw [hQ, hR] at e; rw [hR] at hr; rw [hQ, hR]
  by_cases h : D ≤ 2 * R + b
  · rw [if_pos h, if_pos h]
    (have : 2 * M + b = D * (2 * Q + 1) + (2 * R + b - D) := by rw [Nat.mul_add, Nat.mul_left_comm]; omega); rw [this, Nat.mul_add_div hD0, Nat.mul_add_mod, Nat.div_eq_of_lt (by omega), Nat.mod_eq_of_lt (by omega)]; exact ⟨rfl, rfl⟩
  · rw [if_neg h, if_neg h]
    (have : 2 * M + b = D * (2 * Q) + (2 * R + b) := by rw [Nat.mul_left_comm]; omega); rw [this, Nat.mul_add_div hD0, Nat.mul_add_mod, Nat.div_eq_of_lt (by omega), Nat.mod_eq_of_lt (by omega)]; exact ⟨rfl, rfl⟩

theorem dloop_ev (N D : Nat) (hN : N < 340282366920938463463374607431768211456) (hD : D < 340282366920938463463374607431768211456) (hD0 : 0 < D) : ∀ i : Nat, i ≤ 128 →
    Ev (fun k => r1_Divide.l0 k ((i : Int) - 1) (hi N) (lo N) (hi D) (lo D) (hi (N / 2 ^ i / D)) (lo (N / 2 ^ i / D)) (hi (N / 2 ^ i % D)) (lo (N / 2 ^ i % D))) (hi (N / D), lo (N / D), hi (N % D), lo (N % D)) := by
  intro i
  induction i with
  | zero =>
    intro _; rw [Nat.pow_zero, Nat.div_one]; refine ev_some (fun k => ?_); simp only [r1_Divide.l0]; rw [if_neg (by decide)]
  | succ i ih =>
    intro hi1; have h := ih (by omega); obtain ⟨b, hb⟩ : ∃ b, N / 2 ^ i % 2 = b := ⟨_, rfl⟩; obtain ⟨M, hM⟩ : ∃ M, N / 2 ^ (i + 1) = M := ⟨_, rfl⟩
    have hNM : N / 2 ^ i = 2 * M + b := by
      rw [← hM, ← hb, Nat.pow_succ, ← Nat.div_div_eq_div_mul]; omega
    have hb1 : b ≤ 1 := by omega
    have hMN : M < 170141183460469231731687303715884105728 := by
      rw [← hM, Nat.pow_succ, ← Nat.div_div_eq_div_mul]; have := Nat.div_le_self N (2 ^ i); omega
    obtain ⟨d1, d2⟩ := div_step M D b hD0 hb1; rw [hNM, d1, d2] at h; have hQM : M / D ≤ M := Nat.div_le_self _ _; rw [hM]; have hj := dstep_ev N D (M / D) (M % D) b i hN hD hD0 (by omega) (Nat.mod_lt _ hD0) hb1 h (by omega); refine Ev.step (fun k => ?_) hj; rw [show (((i + 1 : Nat) : Int) - 1) = (i : Int) from by omega]; simp only [r1_Divide.l0]
    have ew : IntKind.u64.wrap (Int.tmod (i : Int) 64) = ((i % 64 : Nat) : Int) := by
      have : Int.tmod (i : Int) 64 = ((i % 64 : Nat) : Int) := rfl; rw [this, wu]; omega
    rw [if_pos (by omega), ew, if_pos (by omega)]
    by_cases h64 : 64 ≤ i
    · rw [if_pos (by omega)]
      (have ew2 : IntKind.u64.wrap (wrap64 ((i : Int) - 64)) = ((i - 64 : Nat) : Int) := by unfold wrap64; rw [wu]; omega); rw [ew2, if_pos (by omega)]
      have e1 : shr .u64 (hi N) ((i - 64 : Nat) : Int) = ((N / 2 ^ i : Nat) : Int) := by
        unfold hi; rw [shr_nat _ (i - 64) _ (by omega) rfl, bit_hi N i h64]
      have e2 := and_one (N / 2 ^ i) (by
        rw [← bit_hi N i h64]; have := Nat.div_le_self (N / 18446744073709551616) (2 ^ (i - 64))
        omega)
      rw [e1, e2, hb]
    · rw [if_neg (by omega)]
      have e1 : shr .u64 (lo N) ((i % 64 : Nat) : Int) = ((N % 18446744073709551616 / 2 ^ i : Nat) : Int) := by
        rw [show i % 64 = i from by omega]; unfold lo; rw [shr_nat _ i _ (by omega) rfl]
      have e2 := and_one (N % 18446744073709551616 / 2 ^ i) (by
        have := Nat.div_le_self (N % 18446744073709551616) (2 ^ i)
        omega)
      rw [e1, e2, bit_lo N i (by omega), hb]

theorem divide_ev (N D : Nat) (hN : N < 340282366920938463463374607431768211456) (hD : D < 340282366920938463463374607431768211456) (hD0 : 0 < D) :
    Ev (fun k => r1_Divide.f k (hi N) (lo N) (hi D) (lo D)) (hi (N / D), lo (N / D), hi (N % D), lo (N % D)) := by
  have hlong : Ev (fun k => r1_Divide.j0 k false (hi N) (lo N) (hi D) (lo D)) (hi (N / D), lo (N / D), hi (N % D), lo (N % D)) := by
    have h := dloop_ev N D hN hD hD0 128 (Nat.le_refl _); have e0 : N / 2 ^ 128 = 0 := Nat.div_eq_of_lt hN; rw [e0, Nat.zero_div, Nat.zero_mod] at h; refine Ev.step (fun k => ?_) h; simp only [r1_Divide.j0]; rw [if_neg (by decide)]; rfl
  by_cases h1 : N < 18446744073709551616
  · by_cases h2 : D < 18446744073709551616
    · refine Ev.congr (f := fun k => r1_Divide.j0 k true (hi N) (lo N) (hi D) (lo D)) (fun k => ?_) (ev_some (fun k => ?_))
      · unfold r1_Divide.f
        rw [if_pos (by unfold hi; omega)]
        congr 1
        rw [beq_iff_eq]; unfold hi; omega
      · simp only [r1_Divide.j0]
        rw [if_pos trivial, if_neg (by unfold lo; omega)]; (have el1 : lo N = (N : Int) := by unfold lo; omega); (have el2 : lo D = (D : Int) := by unfold lo; omega); have e3 : Int.tdiv (N : Int) (D : Int) = ((N / D : Nat) : Int) := rfl; have e4 : Int.tmod (N : Int) (D : Int) = ((N % D : Nat) : Int) := rfl; have l1 := Nat.div_le_self N D; have l2 := Nat.mod_lt N hD0; rw [el1, el2, e3, e4]; obtain ⟨Q, hQ⟩ : ∃ Q, N / D = Q := ⟨_, rfl⟩; obtain ⟨R, hR⟩ : ∃ R, N % D = R := ⟨_, rfl⟩; rw [hQ] at l1; rw [hR] at l2; rw [hQ, hR, wu]; simp only [Option.some.injEq, Prod.mk.injEq]; unfold hi lo; omega
    · refine Ev.congr (fun k => ?_) hlong
      unfold r1_Divide.f; rw [if_pos (by unfold hi; omega)]
      congr 1
      rw [beq_eq_false_iff_ne]; unfold hi; omega
  · refine Ev.congr (fun k => ?_) hlong
    unfold r1_Divide.f; rw [if_neg (by unfold hi; omega)]

theorem divisor_ev : ∀ b a : Nat, a < 340282366920938463463374607431768211456 → b < 340282366920938463463374607431768211456 →
    Ev (fun k => r1_Divisor.f k (hi a) (lo a) (hi b) (lo b)) (hi (Nat.gcd a b), lo (Nat.gcd a b)) := by
  intro b
  induction b using Nat.strongRecOn with
  | _ b ih =>
    intro a ha hb
    by_cases h : b = 0
    · subst h
      refine ev_some (fun k => ?_); simp only [r1_Divisor.f, r1_Divisor.l0]; rw [Nat.gcd_zero_right, if_neg (by decide)]
    · have hlt : a % b < b := Nat.mod_lt _ (by omega)
      have h2 := ih (a % b) hlt b hb (by omega); rw [show Nat.gcd a b = Nat.gcd b (a % b) from by rw [Nat.gcd_comm a b, Nat.gcd_rec b a, Nat.gcd_comm]]; refine Ev.step (fun k => ?_) (Ev.bind (f := fun k (t : Int × Int × Int × Int) => r1_Divisor.l0 k (hi b) (lo b) t.2.2.1 t.2.2.2) (divide_ev a b ha hb (by omega)) h2); simp only [r1_Divisor.f, r1_Divisor.l0]; rw [if_pos]; have : ¬ (hi b = 0 ∧ lo b = 0) := by unfold hi lo; omega
      by_cases hh : hi b = 0
      · have hl : ¬ lo b = 0 := fun hl => this ⟨hh, hl⟩
        simp [hl]
      · simp [hh]
end Go.Proofs.YtbapkiclgkddcaaDoor.Mth

-- Printed by gp.py (a program of this session's own, over the kit's printer) out of the translation; Lean checks it.
namespace Go.Proofs.YtbapkiclgkddcaaDoor.G
open Go.Proofs.YtbapkiclgkddcaaDoor.Given Go.Proofs.YtbapkiclgkddcaaDoor.Short
open Go.RowKit Go.Proofs.YtbapkiclgkddcaaDoorW.PrintWords Go.Proofs.YtbapkiclgkddcaaDoorW.PrintLast Go.Proofs.YtbapkiclgkddcaaDoorW.PrintMore
attribute [local go_sem] max2_int min2_int max_two min_two max_three min_three max_four min_four   -- for this text's walks alone
set_option linter.unusedVariables false
set_option linter.unusedSimpArgs false

/-! ### r1_Size: function 48 -/
def r1_Size.f (a0 : Int) : Option (Int) := if a0 < 0 then (some (IntKind.u64.wrap ((IntKind.u64.wrap (wrap64 (-(wrap64 (a0 + 1))))) + 1))) else (some (IntKind.u64.wrap (a0)))
set_option maxHeartbeats 8000000 in
set_option maxRecDepth 100000 in
theorem r1_Size.calls (a0 : Int) (r : Int) (w : World) (h : r1_Size.f a0 = some r) :
  Calls Tryd.prog 48 #[.int .i64 a0] w fun e w' => e = .returned (.int .u64 r) ∧ Drawn0 w w' := by
 have H : (if a0 < 0 then (some (IntKind.u64.wrap ((IntKind.u64.wrap (wrap64 (-(wrap64 (a0 + 1))))) + 1))) else (some (IntKind.u64.wrap (a0)))) = some r := h; clear h
 by_cases c2 : a0 < 0
 ·rw [if_pos c2] at H; have c2b0 : decide (a0 < 0) = true := decide_eq_true c2; clear c2; obtain rfl := Option.some.inj H; (go_enter Tryd.func48, Tryd.ntmps48); (go_wp2); (go_ret); exact ⟨by first | rfl | (simp; done) | (simp [*]; done), by repeat (first | exact Drawn0.refl _ | apply Drawn0.step)⟩
 ·rw [if_neg c2] at H; have c2b0 : decide (a0 < 0) = false := decide_eq_false c2; clear c2; obtain rfl := Option.some.inj H; (go_enter Tryd.func48, Tryd.ntmps48); (go_wp2); (go_ret); exact ⟨by first | rfl | (simp; done) | (simp [*]; done), by repeat (first | exact Drawn0.refl _ | apply Drawn0.step)⟩

end Go.Proofs.YtbapkiclgkddcaaDoor.G

-- Printed by gp.py (a program of this session's own, over the kit's printer) out of the translation; Lean checks it.
namespace Go.Proofs.YtbapkiclgkddcaaDoor.G
open Go.Proofs.YtbapkiclgkddcaaDoor.Given Go.Proofs.YtbapkiclgkddcaaDoor.Short
open Go.RowKit Go.Proofs.YtbapkiclgkddcaaDoorW.PrintWords Go.Proofs.YtbapkiclgkddcaaDoorW.PrintLast Go.Proofs.YtbapkiclgkddcaaDoorW.PrintMore
attribute [local go_sem] max2_int min2_int max_two min_two max_three min_three max_four min_four   -- for this text's walks alone
set_option linter.unusedVariables false
set_option linter.unusedSimpArgs false

/-! ### r1_New: function 39 -/
def r1_New.f (k : Nat) (a0 : Int) (a1 : Int) : Option (Int × Int × Int) := if a1 = 0 then (some (0, 0, 2)) else ((r1_Size.f a0).bind fun t376 => ((r1_Size.f a1).bind fun t377 => ((r1_Reduce.f k ((decide (a0 < 0)) != (decide (a1 < 0))) 0 t376 0 t377).bind fun bt378 => (some (bt378.1, bt378.2.1, bt378.2.2)))))
theorem r1_New.mono : ∀ a0 a1 k, LeO (r1_New.f k a0 a1) (r1_New.f (k + 1) a0 a1) := by
 intro a0 a1 k; unfold r1_New.f
 repeat' first
   | (with_reducible exact r1_Reduce.mono _ _ _ _ _ _)
   | (with_reducible exact LeO.refl _)
   | (with_reducible exact LeO.none _)
   | (with_reducible refine LeO.ite ?_ ?_)
   | (with_reducible refine LeO.bind ?_ (fun _ => ?_))
   | exact r1_Reduce.mono _ _ _ _ _ _
   | exact LeO.none _
   | refine LeO.ite ?_ ?_
   | refine LeO.bind ?_ (fun _ => ?_)
set_option maxHeartbeats 8000000 in
set_option maxRecDepth 100000 in
theorem r1_New.calls (k : Nat) (a0 : Int) (a1 : Int) (r1 : Int) (r2 : Int) (r3 : Int) (w : World) (h : r1_New.f k a0 a1 = some (r1, r2, r3)) :
  Calls Tryd.prog 39 #[.int .i64 a0, .int .i64 a1] w fun e w' => e = .returned (.tuple #[.agg #[.int .i64 r1, .int .i64 r2], .int .i64 r3]) ∧ Below w.heap.size w w' := by
 have hu24 := Tryd.underlying24; have hu65 := Tryd.underlying65; have HB := Aside0.mk (Below.refl w.heap.size w); have H : (if a1 = 0 then (some (0, 0, 2)) else ((r1_Size.f a0).bind fun t376 => ((r1_Size.f a1).bind fun t377 => ((r1_Reduce.f k ((decide (a0 < 0)) != (decide (a1 < 0))) 0 t376 0 t377).bind fun bt378 => (some (bt378.1, bt378.2.1, bt378.2.2)))))) = some (r1, r2, r3) := h; clear h
 by_cases c3 : a1 = 0
 ·rw [if_pos c3] at H; have c3b0 : (a1 == 0) = true := beq_iff_eq.mpr c3; have c3b1 : (a1 != 0) = false := bne_eq_false_iff_eq.mpr c3; clear c3; simp only [Option.some.injEq, Prod.mk.injEq] at H; obtain ⟨rfl, rfl, rfl⟩ := H; (go_enter Tryd.func39, Tryd.ntmps39); (go_wp2_with (first | ((with_reducible refine gate_dst (N := 4) rfl ?_); refine bx (N := 4) (cs := #[.int .i64 0, .int .i64 0]) (t := 24) ?_; intro gb375 hg w4 hbox hb; have BK375 := Aside0.mk (hbox); have GW375 := gs HB hg; have GE375 := gs HB hg; replace HB := wb HB hb; clear hb hbox hg; have hcz5_0 : w4.cell? ⟨gb375, 0, none⟩ = some (.int .i64 0) := bc BK375 0; have hcz5_1 : w4.cell? ⟨gb375, 1, none⟩ = some (.int .i64 0) := bc BK375 1; have hfz5_0 := blk_frozen BK375.out 0; have hfz5_1 := blk_frozen BK375.out 1))); refine bodyPost_ret (results_ct rfl _ _ gb375 24 #[.int .i64 0, .int .i64 0] (0, 0) _ rfl (by refine pe ?_; refine blk_put (cs := #[.int .i64 0, .int .i64 0]) ?_ 1 _ rfl; refine pe ?_; refine blk_put (cs := #[.int .i64 0, .int .i64 0]) ?_ 0 _ rfl; refine pe ?_; exact BK375.out) Tryd.underlying24 rfl (by kernel_rfl)) rfl ?_; exact ⟨by first | rfl | (simp [errW_none, errW_some] <;> rfl) | (simp [*, errW_none, errW_some] <;> rfl), bw HB⟩
 ·rw [if_neg c3] at H; have c3b0 : (a1 == 0) = false := beq_eq_false_iff_ne.mpr c3; have c3b1 : (a1 != 0) = true := bne_iff_ne.mpr c3; replace H := Option.bind_eq_some_iff.mp H; obtain ⟨t376, A60, H⟩ := H; (try dsimp only at H); have A6 := Aside0.mk A60; clear A60; replace H := Option.bind_eq_some_iff.mp H; obtain ⟨t377, A70, H⟩ := H; (try dsimp only at H); have A7 := Aside0.mk A70; clear A70; replace H := Option.bind_eq_some_iff.mp H; obtain ⟨⟨t378, t379, t380⟩, A80, H⟩ := H; (try dsimp only at H); have A8 := Aside0.mk A80; clear A80; simp only [Option.some.injEq, Prod.mk.injEq] at H; obtain ⟨rfl, rfl, rfl⟩ := H; (go_enter Tryd.func39, Tryd.ntmps39); (go_wp2_with (first | ((with_reducible refine gate_dst (N := 4) rfl ?_); refine bx (N := 4) (cs := #[.int .i64 0, .int .i64 0]) (t := 24) ?_; intro gb375 hg w9 hbox hb; have BK375 := Aside0.mk (hbox); have GW375 := gs HB hg; have GE375 := gs HB hg; replace HB := wb HB hb; clear hb hbox hg) | ((with_reducible refine gate_callee (f := 48) rfl ?_); refine gl (some 15) Tryd.func48 #[.int .i64 a0] ?_; (with_reducible refine (r1_Size.calls a0 t376 _ A6.out).mono ?_); rintro e w' ⟨rfl, ⟨nd, rfl⟩⟩; refine ⟨_, rfl, ?_⟩; (try (rw [drewN_self w9]; generalize hq_ : World.drewN w9 _ = w9; replace BK375 : Aside0 (w9.heap[gb375]? = some (.cells #[.int .i64 0, .int .i64 0] 24 (0, 0))) := ⟨by rw [← hq_]; exact (bq BK375)⟩; replace HB : Aside0 (Below w.heap.size w w9) := ⟨by rw [← hq_]; exact (bw HB)⟩; clear hq_))) | ((with_reducible refine gate_callee (f := 48) rfl ?_); refine gl (some 18) Tryd.func48 #[.int .i64 a1] ?_; (with_reducible refine (r1_Size.calls a1 t377 _ A7.out).mono ?_); rintro e w' ⟨rfl, ⟨nd, rfl⟩⟩; refine ⟨_, rfl, ?_⟩; (try (rw [drewN_self w9]; generalize hq_ : World.drewN w9 _ = w9; replace BK375 : Aside0 (w9.heap[gb375]? = some (.cells #[.int .i64 0, .int .i64 0] 24 (0, 0))) := ⟨by rw [← hq_]; exact (bq BK375)⟩; replace HB : Aside0 (Below w.heap.size w w9) := ⟨by rw [← hq_]; exact (bw HB)⟩; clear hq_))) | ((with_reducible refine gate_callee (f := 62) rfl ?_); refine gl (some 20) Tryd.func62 #[.bool ((decide (a0 < 0)) != (decide (a1 < 0))), .agg #[.int .u64 0, .int .u64 t376], .agg #[.int .u64 0, .int .u64 t377]] ?_; (with_reducible refine (r1_Reduce.calls k ((decide (a0 < 0)) != (decide (a1 < 0))) 0 t376 0 t377 t378 t379 t380 _ A8.out).mono ?_); rintro e w10 ⟨rfl, hb⟩; refine ⟨_, rfl, ?_⟩; replace BK375 := kb BK375 hb; replace HB := wb HB hb; (try clear hb); (try clear hb2); (try clear hk); (try clear hi); have hcz11_0 : w10.cell? ⟨gb375, 0, none⟩ = some (.int .i64 0) := bc BK375 0; have hcz11_1 : w10.cell? ⟨gb375, 1, none⟩ = some (.int .i64 0) := bc BK375 1; have hfz11_0 := blk_frozen BK375.out 0; have hfz11_1 := blk_frozen BK375.out 1))); refine bodyPost_ret (results_ct rfl _ _ gb375 24 #[.int .i64 t378, .int .i64 t379] (0, 0) _ rfl (by refine pe ?_; refine blk_put (cs := #[.int .i64 t378, .int .i64 0]) ?_ 1 _ rfl; refine pe ?_; refine blk_put (cs := #[.int .i64 0, .int .i64 0]) ?_ 0 _ rfl; refine pe ?_; exact BK375.out) Tryd.underlying24 rfl (by kernel_rfl)) rfl ?_; exact ⟨by first | rfl | (simp [errW_none, errW_some] <;> rfl) | (simp [*, errW_none, errW_some] <;> rfl), bw HB⟩

end Go.Proofs.YtbapkiclgkddcaaDoor.G

-- Printed by gp.py (a program of this session's own, over the kit's printer) out of the translation; Lean checks it.
namespace Go.Proofs.YtbapkiclgkddcaaDoor.G
open Go.Proofs.YtbapkiclgkddcaaDoor.Given Go.Proofs.YtbapkiclgkddcaaDoor.Short
open Go.RowKit Go.Proofs.YtbapkiclgkddcaaDoorW.PrintWords Go.Proofs.YtbapkiclgkddcaaDoorW.PrintLast Go.Proofs.YtbapkiclgkddcaaDoorW.PrintMore
attribute [local go_sem] max2_int min2_int max_two min_two max_three min_three max_four min_four   -- for this text's walks alone
set_option linter.unusedVariables false
set_option linter.unusedSimpArgs false

/-! ### ratio_Valid: function 42 -/
def ratio_Valid.f (k : Nat) (a0_0 : Int) (a0_1 : Int) : Option (Bool) := if a0_1 ≥ 1 then (if a0_1 ≤ 1152921504606846976 then (if a0_0 ≥ (-1152921504606846976) then (if a0_0 ≤ 1152921504606846976 then ((ratio_abs.f a0_0).bind fun t433 => ((ratio_gcd.f k t433 (IntKind.u64.wrap (a0_1))).bind fun t434 => (some (t434 == 1)))) else (some false)) else (some false)) else (some false)) else (some false)
theorem ratio_Valid.mono : ∀ a0 a1 k, LeO (ratio_Valid.f k a0 a1) (ratio_Valid.f (k + 1) a0 a1) := by
 intro a0 a1 k; unfold ratio_Valid.f
 repeat' first
   | (with_reducible exact ratio_gcd.mono _ _ _)
   | (with_reducible exact LeO.refl _)
   | (with_reducible exact LeO.none _)
   | (with_reducible refine LeO.ite ?_ ?_)
   | (with_reducible refine LeO.bind ?_ (fun _ => ?_))
   | exact ratio_gcd.mono _ _ _
   | exact LeO.none _
   | refine LeO.ite ?_ ?_
   | refine LeO.bind ?_ (fun _ => ?_)
set_option maxHeartbeats 8000000 in
set_option maxRecDepth 100000 in
theorem ratio_Valid.calls (k : Nat) (a0_0 : Int) (a0_1 : Int) (r : Bool) (w : World) (h : ratio_Valid.f k a0_0 a0_1 = some r) :
  Calls Tryd.prog 42 #[.agg #[.int .i64 a0_0, .int .i64 a0_1]] w fun e w' => e = .returned (.bool r) ∧ Below w.heap.size w w' := by
 have hu24 := Tryd.underlying24; have HB := Aside0.mk (Below.refl w.heap.size w); have H : (if a0_1 ≥ 1 then (if a0_1 ≤ 1152921504606846976 then (if a0_0 ≥ (-1152921504606846976) then (if a0_0 ≤ 1152921504606846976 then ((ratio_abs.f a0_0).bind fun t433 => ((ratio_gcd.f k t433 (IntKind.u64.wrap (a0_1))).bind fun t434 => (some (t434 == 1)))) else (some false)) else (some false)) else (some false)) else (some false)) = some r := h; clear h
 by_cases c2 : a0_1 ≥ 1
 ·rw [if_pos c2] at H; have c2b0 : decide (1 ≤ a0_1) = true := decide_eq_true c2; clear c2
  by_cases c3 : a0_1 ≤ 1152921504606846976
  ·rw [if_pos c3] at H; have c3b0 : decide (a0_1 ≤ 1152921504606846976) = true := decide_eq_true c3; clear c3
   by_cases c4 : a0_0 ≥ (-1152921504606846976)
   ·rw [if_pos c4] at H; have c4b0 : decide ((-1152921504606846976) ≤ a0_0) = true := decide_eq_true c4; clear c4
    by_cases c5 : a0_0 ≤ 1152921504606846976
    ·rw [if_pos c5] at H; have c5b0 : decide (a0_0 ≤ 1152921504606846976) = true := decide_eq_true c5; clear c5; replace H := Option.bind_eq_some_iff.mp H; obtain ⟨t433, A60, H⟩ := H; (try dsimp only at H); have A6 := Aside0.mk A60; clear A60; replace H := Option.bind_eq_some_iff.mp H; obtain ⟨t434, A70, H⟩ := H; (try dsimp only at H); have A7 := Aside0.mk A70; clear A70; obtain rfl := Option.some.inj H; (go_enter Tryd.func42, Tryd.ntmps42); (go_wp2_with (first | ((with_reducible refine gate_dst (N := 1) rfl ?_); refine bx (N := 1) (cs := #[.int .i64 a0_0, .int .i64 a0_1]) (t := 24) ?_; intro gb432 hg w8 hbox hb; have BK432 := Aside0.mk (hbox); have GW432 := gs HB hg; have GE432 := gs HB hg; replace HB := wb HB hb; clear hb hbox hg; have hcz9_0 : w8.cell? ⟨gb432, 0, none⟩ = some (.int .i64 a0_0) := bc BK432 0; have hcz9_1 : w8.cell? ⟨gb432, 1, none⟩ = some (.int .i64 a0_1) := bc BK432 1; have hfz9_0 := blk_frozen BK432.out 0; have hfz9_1 := blk_frozen BK432.out 1) | (go_at_call 41; (with_reducible refine (ratio_abs.calls a0_0 t433 _ A6.out).mono ?_); rintro e w' ⟨rfl, ⟨nd, rfl⟩⟩; (try first | exact ⟨rfl, _, World.drewN_drewN _ _ _⟩ | exact ⟨rfl, _, Eq.trans (World.drewN_drewN _ _ _) (congrArg (World.drewN _) (Nat.add_assoc _ _ _))⟩)) | (go_at_call 68; (with_reducible refine (ratio_gcd.calls k t433 (IntKind.u64.wrap (a0_1)) t434 _ A7.out).mono ?_); rintro e w' ⟨rfl, ⟨nd, rfl⟩⟩; (try first | exact ⟨rfl, _, World.drewN_drewN _ _ _⟩ | exact ⟨rfl, _, Eq.trans (World.drewN_drewN _ _ _) (congrArg (World.drewN _) (Nat.add_assoc _ _ _))⟩)))); (repeat (go_quiet (first | ((with_reducible refine gate_dst (N := 1) rfl ?_); refine bx (N := 1) (cs := #[.int .i64 a0_0, .int .i64 a0_1]) (t := 24) ?_; intro gb432 hg w8 hbox hb; have BK432 := Aside0.mk (hbox); have GW432 := gs HB hg; have GE432 := gs HB hg; replace HB := wb HB hb; clear hb hbox hg; have hcz9_0 : w8.cell? ⟨gb432, 0, none⟩ = some (.int .i64 a0_0) := bc BK432 0; have hcz9_1 : w8.cell? ⟨gb432, 1, none⟩ = some (.int .i64 a0_1) := bc BK432 1; have hfz9_0 := blk_frozen BK432.out 0; have hfz9_1 := blk_frozen BK432.out 1) | (go_at_call 41; (with_reducible refine (ratio_abs.calls a0_0 t433 _ A6.out).mono ?_); rintro e w' ⟨rfl, ⟨nd, rfl⟩⟩; (try first | exact ⟨rfl, _, World.drewN_drewN _ _ _⟩ | exact ⟨rfl, _, Eq.trans (World.drewN_drewN _ _ _) (congrArg (World.drewN _) (Nat.add_assoc _ _ _))⟩)) | (go_at_call 68; (with_reducible refine (ratio_gcd.calls k t433 (IntKind.u64.wrap (a0_1)) t434 _ A7.out).mono ?_); rintro e w' ⟨rfl, ⟨nd, rfl⟩⟩; (try first | exact ⟨rfl, _, World.drewN_drewN _ _ _⟩ | exact ⟨rfl, _, Eq.trans (World.drewN_drewN _ _ _) (congrArg (World.drewN _) (Nat.add_assoc _ _ _))⟩))); try go_wp2_with (first | ((with_reducible refine gate_dst (N := 1) rfl ?_); refine bx (N := 1) (cs := #[.int .i64 a0_0, .int .i64 a0_1]) (t := 24) ?_; intro gb432 hg w8 hbox hb; have BK432 := Aside0.mk (hbox); have GW432 := gs HB hg; have GE432 := gs HB hg; replace HB := wb HB hb; clear hb hbox hg; have hcz9_0 : w8.cell? ⟨gb432, 0, none⟩ = some (.int .i64 a0_0) := bc BK432 0; have hcz9_1 : w8.cell? ⟨gb432, 1, none⟩ = some (.int .i64 a0_1) := bc BK432 1; have hfz9_0 := blk_frozen BK432.out 0; have hfz9_1 := blk_frozen BK432.out 1) | (go_at_call 41; (with_reducible refine (ratio_abs.calls a0_0 t433 _ A6.out).mono ?_); rintro e w' ⟨rfl, ⟨nd, rfl⟩⟩; (try first | exact ⟨rfl, _, World.drewN_drewN _ _ _⟩ | exact ⟨rfl, _, Eq.trans (World.drewN_drewN _ _ _) (congrArg (World.drewN _) (Nat.add_assoc _ _ _))⟩)) | (go_at_call 68; (with_reducible refine (ratio_gcd.calls k t433 (IntKind.u64.wrap (a0_1)) t434 _ A7.out).mono ?_); rintro e w' ⟨rfl, ⟨nd, rfl⟩⟩; (try first | exact ⟨rfl, _, World.drewN_drewN _ _ _⟩ | exact ⟨rfl, _, Eq.trans (World.drewN_drewN _ _ _) (congrArg (World.drewN _) (Nat.add_assoc _ _ _))⟩))))); (go_ret); exact ⟨by first | rfl | (simp [errW_none, errW_some] <;> rfl) | (simp [*, errW_none, errW_some] <;> rfl), bw HB⟩
    ·rw [if_neg c5] at H; have c5b0 : decide (a0_0 ≤ 1152921504606846976) = false := decide_eq_false c5; clear c5; obtain rfl := Option.some.inj H; (go_enter Tryd.func42, Tryd.ntmps42); (go_wp2_with (first | ((with_reducible refine gate_dst (N := 1) rfl ?_); refine bx (N := 1) (cs := #[.int .i64 a0_0, .int .i64 a0_1]) (t := 24) ?_; intro gb432 hg w10 hbox hb; have BK432 := Aside0.mk (hbox); have GW432 := gs HB hg; have GE432 := gs HB hg; replace HB := wb HB hb; clear hb hbox hg; have hcz11_0 : w10.cell? ⟨gb432, 0, none⟩ = some (.int .i64 a0_0) := bc BK432 0; have hcz11_1 : w10.cell? ⟨gb432, 1, none⟩ = some (.int .i64 a0_1) := bc BK432 1; have hfz11_0 := blk_frozen BK432.out 0; have hfz11_1 := blk_frozen BK432.out 1))); (repeat (go_quiet (first | ((with_reducible refine gate_dst (N := 1) rfl ?_); refine bx (N := 1) (cs := #[.int .i64 a0_0, .int .i64 a0_1]) (t := 24) ?_; intro gb432 hg w10 hbox hb; have BK432 := Aside0.mk (hbox); have GW432 := gs HB hg; have GE432 := gs HB hg; replace HB := wb HB hb; clear hb hbox hg; have hcz11_0 : w10.cell? ⟨gb432, 0, none⟩ = some (.int .i64 a0_0) := bc BK432 0; have hcz11_1 : w10.cell? ⟨gb432, 1, none⟩ = some (.int .i64 a0_1) := bc BK432 1; have hfz11_0 := blk_frozen BK432.out 0; have hfz11_1 := blk_frozen BK432.out 1)); try go_wp2_with (first | ((with_reducible refine gate_dst (N := 1) rfl ?_); refine bx (N := 1) (cs := #[.int .i64 a0_0, .int .i64 a0_1]) (t := 24) ?_; intro gb432 hg w10 hbox hb; have BK432 := Aside0.mk (hbox); have GW432 := gs HB hg; have GE432 := gs HB hg; replace HB := wb HB hb; clear hb hbox hg; have hcz11_0 : w10.cell? ⟨gb432, 0, none⟩ = some (.int .i64 a0_0) := bc BK432 0; have hcz11_1 : w10.cell? ⟨gb432, 1, none⟩ = some (.int .i64 a0_1) := bc BK432 1; have hfz11_0 := blk_frozen BK432.out 0; have hfz11_1 := blk_frozen BK432.out 1)))); (go_ret); exact ⟨by first | rfl | (simp [errW_none, errW_some] <;> rfl) | (simp [*, errW_none, errW_some] <;> rfl), bw HB⟩
   ·rw [if_neg c4] at H; have c4b0 : decide ((-1152921504606846976) ≤ a0_0) = false := decide_eq_false c4; clear c4; obtain rfl := Option.some.inj H; (go_enter Tryd.func42, Tryd.ntmps42); (go_wp2_with (first | ((with_reducible refine gate_dst (N := 1) rfl ?_); refine bx (N := 1) (cs := #[.int .i64 a0_0, .int .i64 a0_1]) (t := 24) ?_; intro gb432 hg w12 hbox hb; have BK432 := Aside0.mk (hbox); have GW432 := gs HB hg; have GE432 := gs HB hg; replace HB := wb HB hb; clear hb hbox hg; have hcz13_0 : w12.cell? ⟨gb432, 0, none⟩ = some (.int .i64 a0_0) := bc BK432 0; have hcz13_1 : w12.cell? ⟨gb432, 1, none⟩ = some (.int .i64 a0_1) := bc BK432 1; have hfz13_0 := blk_frozen BK432.out 0; have hfz13_1 := blk_frozen BK432.out 1))); (repeat (go_quiet (first | ((with_reducible refine gate_dst (N := 1) rfl ?_); refine bx (N := 1) (cs := #[.int .i64 a0_0, .int .i64 a0_1]) (t := 24) ?_; intro gb432 hg w12 hbox hb; have BK432 := Aside0.mk (hbox); have GW432 := gs HB hg; have GE432 := gs HB hg; replace HB := wb HB hb; clear hb hbox hg; have hcz13_0 : w12.cell? ⟨gb432, 0, none⟩ = some (.int .i64 a0_0) := bc BK432 0; have hcz13_1 : w12.cell? ⟨gb432, 1, none⟩ = some (.int .i64 a0_1) := bc BK432 1; have hfz13_0 := blk_frozen BK432.out 0; have hfz13_1 := blk_frozen BK432.out 1)); try go_wp2_with (first | ((with_reducible refine gate_dst (N := 1) rfl ?_); refine bx (N := 1) (cs := #[.int .i64 a0_0, .int .i64 a0_1]) (t := 24) ?_; intro gb432 hg w12 hbox hb; have BK432 := Aside0.mk (hbox); have GW432 := gs HB hg; have GE432 := gs HB hg; replace HB := wb HB hb; clear hb hbox hg; have hcz13_0 : w12.cell? ⟨gb432, 0, none⟩ = some (.int .i64 a0_0) := bc BK432 0; have hcz13_1 : w12.cell? ⟨gb432, 1, none⟩ = some (.int .i64 a0_1) := bc BK432 1; have hfz13_0 := blk_frozen BK432.out 0; have hfz13_1 := blk_frozen BK432.out 1)))); (go_ret); exact ⟨by first | rfl | (simp [errW_none, errW_some] <;> rfl) | (simp [*, errW_none, errW_some] <;> rfl), bw HB⟩
  ·rw [if_neg c3] at H; have c3b0 : decide (a0_1 ≤ 1152921504606846976) = false := decide_eq_false c3; clear c3; obtain rfl := Option.some.inj H; (go_enter Tryd.func42, Tryd.ntmps42); (go_wp2_with (first | ((with_reducible refine gate_dst (N := 1) rfl ?_); refine bx (N := 1) (cs := #[.int .i64 a0_0, .int .i64 a0_1]) (t := 24) ?_; intro gb432 hg w14 hbox hb; have BK432 := Aside0.mk (hbox); have GW432 := gs HB hg; have GE432 := gs HB hg; replace HB := wb HB hb; clear hb hbox hg; have hcz15_0 : w14.cell? ⟨gb432, 0, none⟩ = some (.int .i64 a0_0) := bc BK432 0; have hcz15_1 : w14.cell? ⟨gb432, 1, none⟩ = some (.int .i64 a0_1) := bc BK432 1; have hfz15_0 := blk_frozen BK432.out 0; have hfz15_1 := blk_frozen BK432.out 1))); (repeat (go_quiet (first | ((with_reducible refine gate_dst (N := 1) rfl ?_); refine bx (N := 1) (cs := #[.int .i64 a0_0, .int .i64 a0_1]) (t := 24) ?_; intro gb432 hg w14 hbox hb; have BK432 := Aside0.mk (hbox); have GW432 := gs HB hg; have GE432 := gs HB hg; replace HB := wb HB hb; clear hb hbox hg; have hcz15_0 : w14.cell? ⟨gb432, 0, none⟩ = some (.int .i64 a0_0) := bc BK432 0; have hcz15_1 : w14.cell? ⟨gb432, 1, none⟩ = some (.int .i64 a0_1) := bc BK432 1; have hfz15_0 := blk_frozen BK432.out 0; have hfz15_1 := blk_frozen BK432.out 1)); try go_wp2_with (first | ((with_reducible refine gate_dst (N := 1) rfl ?_); refine bx (N := 1) (cs := #[.int .i64 a0_0, .int .i64 a0_1]) (t := 24) ?_; intro gb432 hg w14 hbox hb; have BK432 := Aside0.mk (hbox); have GW432 := gs HB hg; have GE432 := gs HB hg; replace HB := wb HB hb; clear hb hbox hg; have hcz15_0 : w14.cell? ⟨gb432, 0, none⟩ = some (.int .i64 a0_0) := bc BK432 0; have hcz15_1 : w14.cell? ⟨gb432, 1, none⟩ = some (.int .i64 a0_1) := bc BK432 1; have hfz15_0 := blk_frozen BK432.out 0; have hfz15_1 := blk_frozen BK432.out 1)))); (go_ret); exact ⟨by first | rfl | (simp [errW_none, errW_some] <;> rfl) | (simp [*, errW_none, errW_some] <;> rfl), bw HB⟩
 ·rw [if_neg c2] at H; have c2b0 : decide (1 ≤ a0_1) = false := decide_eq_false c2; clear c2; obtain rfl := Option.some.inj H; (go_enter Tryd.func42, Tryd.ntmps42); (go_wp2_with (first | ((with_reducible refine gate_dst (N := 1) rfl ?_); refine bx (N := 1) (cs := #[.int .i64 a0_0, .int .i64 a0_1]) (t := 24) ?_; intro gb432 hg w16 hbox hb; have BK432 := Aside0.mk (hbox); have GW432 := gs HB hg; have GE432 := gs HB hg; replace HB := wb HB hb; clear hb hbox hg; have hcz17_0 : w16.cell? ⟨gb432, 0, none⟩ = some (.int .i64 a0_0) := bc BK432 0; have hcz17_1 : w16.cell? ⟨gb432, 1, none⟩ = some (.int .i64 a0_1) := bc BK432 1; have hfz17_0 := blk_frozen BK432.out 0; have hfz17_1 := blk_frozen BK432.out 1))); (repeat (go_quiet (first | ((with_reducible refine gate_dst (N := 1) rfl ?_); refine bx (N := 1) (cs := #[.int .i64 a0_0, .int .i64 a0_1]) (t := 24) ?_; intro gb432 hg w16 hbox hb; have BK432 := Aside0.mk (hbox); have GW432 := gs HB hg; have GE432 := gs HB hg; replace HB := wb HB hb; clear hb hbox hg; have hcz17_0 : w16.cell? ⟨gb432, 0, none⟩ = some (.int .i64 a0_0) := bc BK432 0; have hcz17_1 : w16.cell? ⟨gb432, 1, none⟩ = some (.int .i64 a0_1) := bc BK432 1; have hfz17_0 := blk_frozen BK432.out 0; have hfz17_1 := blk_frozen BK432.out 1)); try go_wp2_with (first | ((with_reducible refine gate_dst (N := 1) rfl ?_); refine bx (N := 1) (cs := #[.int .i64 a0_0, .int .i64 a0_1]) (t := 24) ?_; intro gb432 hg w16 hbox hb; have BK432 := Aside0.mk (hbox); have GW432 := gs HB hg; have GE432 := gs HB hg; replace HB := wb HB hb; clear hb hbox hg; have hcz17_0 : w16.cell? ⟨gb432, 0, none⟩ = some (.int .i64 a0_0) := bc BK432 0; have hcz17_1 : w16.cell? ⟨gb432, 1, none⟩ = some (.int .i64 a0_1) := bc BK432 1; have hfz17_0 := blk_frozen BK432.out 0; have hfz17_1 := blk_frozen BK432.out 1)))); (go_ret); exact ⟨by first | rfl | (simp [errW_none, errW_some] <;> rfl) | (simp [*, errW_none, errW_some] <;> rfl), bw HB⟩

end Go.Proofs.YtbapkiclgkddcaaDoor.G

-- Printed by gp.py (a program of this session's own, over the kit's printer) out of the translation; Lean checks it.
namespace Go.Proofs.YtbapkiclgkddcaaDoor.G
open Go.Proofs.YtbapkiclgkddcaaDoor.Given Go.Proofs.YtbapkiclgkddcaaDoor.Short
open Go.RowKit Go.Proofs.YtbapkiclgkddcaaDoorW.PrintWords Go.Proofs.YtbapkiclgkddcaaDoorW.PrintLast Go.Proofs.YtbapkiclgkddcaaDoorW.PrintMore
attribute [local go_sem] max2_int min2_int max_two min_two max_three min_three max_four min_four   -- for this text's walks alone
set_option linter.unusedVariables false
set_option linter.unusedSimpArgs false

attribute [local go_sem high] eqA65
/-! ### r1_Valid: function 36 -/
def r1_Valid.j0 : Nat → Bool → Int → Int → Option (Bool)
 | 0, _, _, _ => none
 | k + 1, x20, x437000, x437001 => if x20 = true then (some false) else ((r1_Size.f x437000).bind fun t437 => ((r1_Size.f x437001).bind fun t438 => ((r1_Divisor.f k 0 t437 0 t438).bind fun bt439 => (some (bt439.1 == 0 && (bt439.2 == 1))))))
def r1_Valid.f (k : Nat) (a0_0 : Int) (a0_1 : Int) : Option (Bool) := if a0_1 < 1 then (r1_Valid.j0 k true a0_0 a0_1) else (if a0_1 > 1152921504606846976 then (r1_Valid.j0 k true a0_0 a0_1) else (if a0_0 < (-1152921504606846976) then (r1_Valid.j0 k true a0_0 a0_1) else (r1_Valid.j0 k (decide (a0_0 > 1152921504606846976)) a0_0 a0_1)))
theorem r1_Valid.mono_l : ∀ k, (∀ y0 y1 y2, LeO (r1_Valid.j0 k y0 y1 y2) (r1_Valid.j0 (k + 1) y0 y1 y2))
 | 0 => fun _ _ _ r h => by simp [r1_Valid.j0] at h
 | k + 1 => by
  have ih0 := r1_Valid.mono_l k
  ·intro y0 y1 y2; unfold r1_Valid.j0
   repeat' first
   | (with_reducible exact ih0 _ _ _)
   | (with_reducible exact r1_Divisor.mono _ _ _ _ _)
   | (with_reducible exact LeO.refl _)
   | (with_reducible exact LeO.none _)
   | (with_reducible refine LeO.ite ?_ ?_)
   | (with_reducible refine LeO.bind ?_ (fun _ => ?_))
   | exact ih0 _ _ _
   | exact r1_Divisor.mono _ _ _ _ _
   | exact LeO.none _
   | refine LeO.ite ?_ ?_
   | refine LeO.bind ?_ (fun _ => ?_)
theorem r1_Valid.mono : ∀ a0 a1 k, LeO (r1_Valid.f k a0 a1) (r1_Valid.f (k + 1) a0 a1) := by
 intro a0 a1 k; have ih0 := r1_Valid.mono_l k; unfold r1_Valid.f
 repeat' first
   | (with_reducible exact ih0 _ _ _)
   | (with_reducible exact r1_Divisor.mono _ _ _ _ _)
   | (with_reducible exact LeO.refl _)
   | (with_reducible exact LeO.none _)
   | (with_reducible refine LeO.ite ?_ ?_)
   | (with_reducible refine LeO.bind ?_ (fun _ => ?_))
   | exact ih0 _ _ _
   | exact r1_Divisor.mono _ _ _ _ _
   | exact LeO.none _
   | refine LeO.ite ?_ ?_
   | refine LeO.bind ?_ (fun _ => ?_)
def r1_Valid.T3 : Bool × List (List Nat × List Nat) := (true, [([], []), ([0], [0]), ([1], [1]), ([2], [2]), ([], []), ([4], [4]), ([5, 2], [5]), ([6], [6]), ([3, 7, 6], [3, 7]), ([], []), ([8, 9], [8, 9]), ([10, 8, 0, 1, 2, 3, 4, 5, 6, 7, 8, 9, 10], [10])])
def r1_Valid.B3 : List Nat := [0, 1, 3, 7, 0, 16, 55, 119, 255, 0, 1023, 2047]
theorem r1_Valid.tab3 : rtab .any (opsOf Tryd.f36 3) = r1_Valid.T3 := by kernel_rfl
theorem r1_Valid.bits3 : waitsOk r1_Valid.T3.2 r1_Valid.B3 = true := by kernel_rfl
set_option maxHeartbeats 8000000 in
set_option maxRecDepth 100000 in
theorem r1_Valid.calls (k : Nat) (a0_0 : Int) (a0_1 : Int) (r : Bool) (w : World) (h : r1_Valid.f k a0_0 a0_1 = some r) :
  Calls Tryd.prog 36 #[.agg #[.int .i64 a0_0, .int .i64 a0_1]] w fun e w' => e = .returned (.bool r) ∧ Below w.heap.size w w' := by
 have hu24 := Tryd.underlying24; have hu65 := Tryd.underlying65; have HB := Aside0.mk (Below.refl w.heap.size w); have H : (if a0_1 < 1 then (r1_Valid.j0 k true a0_0 a0_1) else (if a0_1 > 1152921504606846976 then (r1_Valid.j0 k true a0_0 a0_1) else (if a0_0 < (-1152921504606846976) then (r1_Valid.j0 k true a0_0 a0_1) else (r1_Valid.j0 k (decide (a0_0 > 1152921504606846976)) a0_0 a0_1)))) = some r := h; clear h; have HC2 := Aside0.mk H; clear H; go_enter Tryd.func36, Tryd.ntmps36
 go_upto_region 1 with (first | ((with_reducible refine gate_dst (N := 1) rfl ?_); refine bx (N := 1) (cs := #[.int .i64 a0_0, .int .i64 a0_1]) (t := 24) ?_; intro gb436 hg w3 hbox hb; have BK436 := Aside0.mk (hbox); have GW436 := gs HB hg; have GE436 := gs HB hg; replace HB := wb HB hb; clear hb hbox hg))
 (try simp only [Act.put, List.setIfInBounds_toArray, List.set_cons_zero, List.set_cons_succ])
 go_cut [20] (fun v20 wc => ∃ (kq : Nat) (x20_1 : Bool), v20 = .bool x20_1 ∧ Aside0 (r1_Valid.j0 kq x20_1 a0_0 a0_1 = some r) ∧ Aside0 (kq ≤ k) ∧ Aside0 (wc.heap[gb436]? = some (.cells #[.int .i64 a0_0, .int .i64 a0_1] 24 (0, 0))) ∧ Aside0 (Below w.heap.size w wc))
 case first =>
  have H := HC2.out; clear HC2
  by_cases c4 : a0_1 < 1
  ·rw [if_pos c4] at H; have c4b0 : decide (a0_1 < 1) = true := decide_eq_true c4; clear c4
   (first | rw [c4b0] | (simp only [i64_w, i32_w]; rw [c4b0]) | skip)
   have H' := Aside0.mk H; clear H; have hcz5_0 : w3.cell? ⟨gb436, 0, none⟩ = some (.int .i64 a0_0) := bc BK436 0; have hcz5_1 : w3.cell? ⟨gb436, 1, none⟩ = some (.int .i64 a0_1) := bc BK436 1; have hfz5_0 := blk_frozen BK436.out 0; have hfz5_1 := blk_frozen BK436.out 1; go_wp2
   go_meet
   case rel => exact ⟨_, (true), (by first | rfl | (simp; done) | (simp [*]; done)), H', ⟨by first | omega | exact Nat.le_refl _⟩, ⟨bq BK436⟩, ⟨bw HB⟩⟩
  ·rw [if_neg c4] at H; have c4b0 : decide (a0_1 < 1) = false := decide_eq_false c4; clear c4
   (first | rw [c4b0] | (simp only [i64_w, i32_w]; rw [c4b0]) | skip)
   by_cases c6 : a0_1 > 1152921504606846976
   ·rw [if_pos c6] at H; have c6b0 : decide (1152921504606846976 < a0_1) = true := decide_eq_true c6; clear c6; have H' := Aside0.mk H; clear H; have hcz7_0 : w3.cell? ⟨gb436, 0, none⟩ = some (.int .i64 a0_0) := bc BK436 0; have hcz7_1 : w3.cell? ⟨gb436, 1, none⟩ = some (.int .i64 a0_1) := bc BK436 1; have hfz7_0 := blk_frozen BK436.out 0; have hfz7_1 := blk_frozen BK436.out 1; go_wp2
    go_meet
    case rel => exact ⟨_, (true), (by first | rfl | (simp; done) | (simp [*]; done)), H', ⟨by first | omega | exact Nat.le_refl _⟩, ⟨bq BK436⟩, ⟨bw HB⟩⟩
   ·rw [if_neg c6] at H; have c6b0 : decide (1152921504606846976 < a0_1) = false := decide_eq_false c6; clear c6
    by_cases c8 : a0_0 < (-1152921504606846976)
    ·rw [if_pos c8] at H; have c8b0 : decide (a0_0 < (-1152921504606846976)) = true := decide_eq_true c8; clear c8; have H' := Aside0.mk H; clear H; have hcz9_0 : w3.cell? ⟨gb436, 0, none⟩ = some (.int .i64 a0_0) := bc BK436 0; have hcz9_1 : w3.cell? ⟨gb436, 1, none⟩ = some (.int .i64 a0_1) := bc BK436 1; have hfz9_0 := blk_frozen BK436.out 0; have hfz9_1 := blk_frozen BK436.out 1; go_wp2
     go_meet
     case rel => exact ⟨_, (true), (by first | rfl | (simp; done) | (simp [*]; done)), H', ⟨by first | omega | exact Nat.le_refl _⟩, ⟨bq BK436⟩, ⟨bw HB⟩⟩
    ·rw [if_neg c8] at H; have c8b0 : decide (a0_0 < (-1152921504606846976)) = false := decide_eq_false c8; clear c8; have H' := Aside0.mk H; clear H; have hcz10_0 : w3.cell? ⟨gb436, 0, none⟩ = some (.int .i64 a0_0) := bc BK436 0; have hcz10_1 : w3.cell? ⟨gb436, 1, none⟩ = some (.int .i64 a0_1) := bc BK436 1; have hfz10_0 := blk_frozen BK436.out 0; have hfz10_1 := blk_frozen BK436.out 1; go_wp2
     go_meet
     case rel => exact ⟨_, (decide (a0_0 > 1152921504606846976)), (by first | rfl | (simp; done) | (simp [*]; done)), H', ⟨by first | omega | exact Nat.le_refl _⟩, ⟨bq BK436⟩, ⟨bw HB⟩⟩
 case rest =>
  clear HC2; (try clear p2); (try clear c3); (try clear c4); (try clear c4b0); (try clear c6); (try clear c6b0); (try clear c8); (try clear c8b0); (try clear hcz10_0); (try clear hcz10_1); (try clear hcz5_0); (try clear hcz5_1); (try clear hcz7_0); (try clear hcz7_1); (try clear hcz9_0); (try clear hcz9_1); (try clear hfz10_0); (try clear hfz10_1); (try clear hfz5_0); (try clear hfz5_1); (try clear hfz7_0); (try clear hfz7_1); (try clear hfz9_0); (try clear hfz9_1); obtain ⟨kq, x20_1, rfl, HA, HJ1, BK436, HB⟩ := hcut
  cases kq with
  | zero => exact absurd HA.out (by simp [r1_Valid.j0])
  | succ kj1 =>
   have H := HA.out; clear HA; simp only [r1_Valid.j0] at H
   by_cases c11 : x20_1 = true
   ·subst c11; (have H1 : (some false) = some r := by rw [if_pos rfl] at H; exact H); clear H; have H := H1; clear H1; obtain rfl := Option.some.inj H; (go_wp2); (go_ret); exact ⟨by first | rfl | (simp [errW_none, errW_some] <;> rfl) | (simp [*, errW_none, errW_some] <;> rfl), bw HB⟩
   ·replace c11 := Bool.eq_false_iff.mpr c11; subst c11; (have H1 : ((r1_Size.f a0_0).bind fun t437 => ((r1_Size.f a0_1).bind fun t438 => ((r1_Divisor.f kj1 0 t437 0 t438).bind fun bt439 => (some (bt439.1 == 0 && (bt439.2 == 1)))))) = some r := by rw [if_neg (show ¬ (false = true) by decide)] at H; exact H); clear H; have H := H1; clear H1; replace H := Option.bind_eq_some_iff.mp H; obtain ⟨t437, A120, H⟩ := H; (try dsimp only at H); have A12 := Aside0.mk A120; clear A120; replace H := Option.bind_eq_some_iff.mp H; obtain ⟨t438, A130, H⟩ := H; (try dsimp only at H); have A13 := Aside0.mk A130; clear A130; replace H := Option.bind_eq_some_iff.mp H; obtain ⟨⟨t439, t440⟩, A140, H⟩ := H; (try dsimp only at H); have A14 := Aside0.mk A140; clear A140; obtain rfl := Option.some.inj H; (try go_wp2); have n0_ := Aside0.mk (blk_drew BK436.out); have n1_ := Aside0.mk (below_drew1 HB.out); clear BK436; clear HB; have BK436 := n0_; have HB := n1_; clear n0_ n1_; refine start_ (n := 12) (S := fun w' => w'.cell? ⟨gb436, 0, none⟩ = some (.int .i64 a0_0) ∧ w'.cell? ⟨gb436, 1, none⟩ = some (.int .i64 a0_1)) (ds := []) #[false, false, false, false, false, false, false, false, false, false, false, false] (by kernel_rfl) rfl rfl ⟨bc BK436 0, bc BK436 1⟩ (fun hHeld => ?_); refine with_tabW r1_Valid.tab3 r1_Valid.bits3 (fun HT_ HW_ => ?_); (generalize wc.drew = w15 at BK436 HB hHeld ⊢); refine pure_ (i := 0) (N := some 21) (v := ?_) (a' := ?_) #[true, false, false, false, false, false, false, false, false, false, false, false] rfl rfl (any_of HT_.out (by kernel_rfl)) (fun _ _ _ h => h) (Or.inl ⟨by rfl, ?_⟩) ?_ ?_; rotate_left
    ·intro w'; (go_simp); with_reducible rfl
    rotate_left
    ·simp only [Act.put, List.setIfInBounds_toArray, List.set_cons_zero, List.set_cons_succ, i64_w, i32_w]; rfl
    refine pure_ (i := 4) (N := some 25) (v := ?_) (a' := ?_) #[true, false, false, false, true, false, false, false, false, false, false, false] rfl rfl (any_of HT_.out (by kernel_rfl)) (fun _ _ _ h => h) (Or.inl ⟨by rfl, ?_⟩) ?_ ?_; rotate_left
    ·intro w'; (go_simp); with_reducible rfl
    rotate_left
    ·simp only [Act.put, List.setIfInBounds_toArray, List.set_cons_zero, List.set_cons_succ, i64_w, i32_w]; rfl
    refine pure_ (i := 9) (N := some 30) (v := ?_) (a' := ?_) #[true, false, false, false, true, false, false, false, false, true, false, false] rfl rfl (any_of HT_.out (by kernel_rfl)) (fun _ _ _ h => h) (Or.inl ⟨by rfl, ?_⟩) ?_ ?_; rotate_left
    ·intro w'; (go_simp); with_reducible rfl
    rotate_left
    ·simp only [Act.put, List.setIfInBounds_toArray, List.set_cons_zero, List.set_cons_succ, i64_w, i32_w]; rfl
    refine take_ (i := 1) (N := some 22) (v := ?_) (a' := ?_) #[true, true, false, false, true, false, false, false, false, true, false, false] rfl rfl (take_ofW HT_.out HW_.out (by kernel_rfl)) (fun _ _ _ h => h) (Or.inl ⟨by rfl, ?_⟩) hHeld ?_ ?_; rotate_left
    ·rintro w' ⟨s0, s1⟩; (go_simp); with_reducible rfl
    rotate_left
    ·simp only [Act.put, List.setIfInBounds_toArray, List.set_cons_zero, List.set_cons_succ, i64_w, i32_w]; rfl
    refine take_ (i := 5) (N := some 26) (v := ?_) (a' := ?_) #[true, true, false, false, true, true, false, false, false, true, false, false] rfl rfl (take_ofW HT_.out HW_.out (by kernel_rfl)) (fun _ _ _ h => h) (Or.inl ⟨by rfl, ?_⟩) hHeld ?_ ?_; rotate_left
    ·rintro w' ⟨s0, s1⟩; (go_simp); with_reducible rfl
    rotate_left
    ·simp only [Act.put, List.setIfInBounds_toArray, List.set_cons_zero, List.set_cons_succ, i64_w, i32_w]; rfl
    refine one_ (i := 2) (N := some 23) #[true, true, true, false, true, true, false, false, false, true, false, false] rfl rfl (one_of HT_.out (by kernel_rfl)) (by decide) (fun K hK => ?_); refine gz Tryd.func48 #[.int .i64 a0_0] ?_; (with_reducible refine (r1_Size.calls a0_0 t437 _ A12.out).mono ?_); rintro e w' ⟨rfl, ⟨nd, rfl⟩⟩; refine ⟨_, rfl, ?_⟩; refine hK.out _ _ ⟨bc BK436 0, bc BK436 1⟩ (fun hHeld => ?_); clear hK K; refine norm_ (a' := ?_) ?_ ?_; rotate_left
    ·show Act.put _ (some 23) _ = _; simp only [Act.put, List.setIfInBounds_toArray, List.set_cons_zero, List.set_cons_succ, i64_w, i32_w]; rfl
    refine pure_ (i := 3) (N := some 24) (v := ?_) (a' := ?_) #[true, true, true, true, true, true, false, false, false, true, false, false] rfl rfl (any_of HT_.out (by kernel_rfl)) (fun _ _ _ h => h) (Or.inl ⟨by rfl, ?_⟩) ?_ ?_; rotate_left
    ·intro w'; (go_simp); with_reducible rfl
    rotate_left
    ·simp only [Act.put, List.setIfInBounds_toArray, List.set_cons_zero, List.set_cons_succ, i64_w, i32_w]; rfl
    refine one_ (i := 6) (N := some 27) #[true, true, true, true, true, true, true, false, false, true, false, false] rfl rfl (one_of HT_.out (by kernel_rfl)) (by decide) (fun K hK => ?_); refine gz Tryd.func48 #[.int .i64 a0_1] ?_; (with_reducible refine (r1_Size.calls a0_1 t438 _ A13.out).mono ?_); rintro e w' ⟨rfl, ⟨nd, rfl⟩⟩; refine ⟨_, rfl, ?_⟩; refine hK.out _ _ ⟨bc BK436 0, bc BK436 1⟩ (fun hHeld => ?_); clear hK K; refine norm_ (a' := ?_) ?_ ?_; rotate_left
    ·show Act.put _ (some 27) _ = _; simp only [Act.put, List.setIfInBounds_toArray, List.set_cons_zero, List.set_cons_succ, i64_w, i32_w]; rfl
    refine pure_ (i := 7) (N := some 28) (v := ?_) (a' := ?_) #[true, true, true, true, true, true, true, true, false, true, false, false] rfl rfl (any_of HT_.out (by kernel_rfl)) (fun _ _ _ h => h) (Or.inl ⟨by rfl, ?_⟩) ?_ ?_; rotate_left
    ·intro w'; (go_simp); with_reducible rfl
    rotate_left
    ·simp only [Act.put, List.setIfInBounds_toArray, List.set_cons_zero, List.set_cons_succ, i64_w, i32_w]; rfl
    refine one_ (i := 8) (N := some 29) #[true, true, true, true, true, true, true, true, true, true, false, false] rfl rfl (one_of HT_.out (by kernel_rfl)) (by decide) (fun K hK => ?_); refine gz Tryd.func65 #[.agg #[.int .u64 0, .int .u64 t437], .agg #[.int .u64 0, .int .u64 t438]] ?_; (with_reducible refine (r1_Divisor.calls kj1 0 t437 0 t438 t439 t440 _ A14.out).mono ?_); rintro e w16 ⟨rfl, hb⟩; refine ⟨_, rfl, ?_⟩; have n0_ := kb BK436 hb; have n1_ := wb HB hb; clear BK436; clear HB; have BK436 := n0_; have HB := n1_; clear n0_ n1_; (try clear hb); (try clear hb2); (try clear hk); (try clear hi); refine hK.out _ _ ⟨bc BK436 0, bc BK436 1⟩ (fun hHeld => ?_); clear hK K; refine norm_ (a' := ?_) ?_ ?_; rotate_left
    ·show Act.put _ (some 29) _ = _; simp only [Act.put, List.setIfInBounds_toArray, List.set_cons_zero, List.set_cons_succ, i64_w, i32_w]; rfl
    refine pure_ (i := 10) (N := some 31) (v := ?_) (a' := ?_) #[true, true, true, true, true, true, true, true, true, true, true, false] rfl rfl (any_of HT_.out (by kernel_rfl)) (fun _ _ _ h => h) (Or.inl ⟨by rfl, ?_⟩) ?_ ?_; rotate_left
    ·intro w'; (go_simp); with_reducible rfl
    rotate_left
    ·simp only [Act.put, List.setIfInBounds_toArray, List.set_cons_zero, List.set_cons_succ, i64_w, i32_w]; rfl
    refine pure_ (i := 11) (N := some 2) (v := ?_) (a' := ?_) #[true, true, true, true, true, true, true, true, true, true, true, true] rfl rfl (any_of HT_.out (by kernel_rfl)) (fun _ _ _ h => h) (Or.inl ⟨by rfl, ?_⟩) ?_ ?_; rotate_left
    ·intro w'; (go_simp); with_reducible rfl
    rotate_left
    ·simp only [Act.put, List.setIfInBounds_toArray, List.set_cons_zero, List.set_cons_succ, i64_w, i32_w]; rfl
    refine done_ (done_of HT_.out (by kernel_rfl)) ?_; (try go_wp2); (go_ret); exact ⟨by first | rfl | (simp [errW_none, errW_some] <;> rfl) | (simp [*, errW_none, errW_some] <;> rfl), bw HB⟩

end Go.Proofs.YtbapkiclgkddcaaDoor.G

/- Reducing a fraction to lowest terms: the program's and the reference's functions come to one plain function ('red'); New and Valid of both sides are equal, for all numbers. -/
namespace Go.Proofs.YtbapkiclgkddcaaDoor.Mth
open Go.RowKit Go.Proofs.YtbapkiclgkddcaaDoor.G Go.Proofs.YtbapkiclgkddcaaDoor.Given Go.Proofs.YtbapkiclgkddcaaDoorW.PrintWords Go.Proofs.YtbapkiclgkddcaaDoorW.PrintLast Go.Proofs.YtbapkiclgkddcaaDoorW.PrintMore
set_option linter.unusedVariables false

/-- an int of 64 bits -/
def I64 (a : Int) : Prop := -9223372036854775808 ≤ a ∧ a ≤ 9223372036854775807
theorem I64.of {a : Int} (h : (Lit.int .i64 a).wf = true) : I64 a := by
  simp only [Lit.wf, IntKind.min, IntKind.max, IntKind.signed, IntKind.bits, Bool.and_eq_true, decide_eq_true_eq, if_true] at h; unfold I64; omega

/-- The fraction n / d (d not 0) with a sign, in lowest terms, or the error. -/
def red (neg : Bool) (n d : Nat) : Int × Int × Int :=
  if n / Nat.gcd n d ≤ 1152921504606846976 ∧ d / Nat.gcd n d ≤ 1152921504606846976 then
    ((if neg then -((n / Nat.gcd n d : Nat) : Int) else ((n / Nat.gcd n d : Nat) : Int)), ((d / Nat.gcd n d : Nat) : Int), 0)
  else (0, 0, 6)

theorem reduce_ev (neg : Bool) (n d : Nat) (hn : n < 340282366920938463463374607431768211456) (hd : d < 340282366920938463463374607431768211456) (hd0 : 0 < d) :
    Ev (fun k => r1_Reduce.f k neg (hi n) (lo n) (hi d) (lo d)) (red neg n d) := by
  have hg0 : 0 < Nat.gcd n d := Nat.gcd_pos_of_pos_right _ hd0; have hgd : Nat.gcd n d ≤ d := Nat.gcd_le_right _ hd0; refine Ev.congr (fun k => by unfold r1_Reduce.f; rfl) ?_; refine Ev.bind (divisor_ev d n hn hd) ?_; refine Ev.bind (divide_ev n (Nat.gcd n d) hn (by omega) hg0) ?_; refine Ev.bind (divide_ev d (Nat.gcd n d) hd (by omega) hg0) ?_; have hX := Nat.div_le_self n (Nat.gcd n d); have hY := Nat.div_le_self d (Nat.gcd n d); unfold red; obtain ⟨X, hXe⟩ : ∃ X, n / Nat.gcd n d = X := ⟨_, rfl⟩; obtain ⟨Y, hYe⟩ : ∃ Y, d / Nat.gcd n d = Y := ⟨_, rfl⟩; rw [hXe] at hX; rw [hYe] at hY; simp only [hXe, hYe]
  have key : Ev (fun k => r1_Reduce.j0 k neg (decide (¬ (X ≤ 1152921504606846976 ∧ Y ≤ 1152921504606846976))) (hi X) (lo X) (hi Y) (lo Y)) (if X ≤ 1152921504606846976 ∧ Y ≤ 1152921504606846976 then ((if neg then -(X : Int) else (X : Int)), (Y : Int), (0 : Int)) else (0, 0, 6)) := by
    refine ev_some (fun k => ?_); simp only [r1_Reduce.j0, decide_eq_true_eq]
    by_cases h : X ≤ 1152921504606846976 ∧ Y ≤ 1152921504606846976
    · rw [if_neg (by simpa using h), if_pos h]
      (have e1 : wrap64 (lo X) = (X : Int) := by unfold wrap64 lo; omega); (have e2 : wrap64 (lo Y) = (Y : Int) := by unfold wrap64 lo; omega); (have e3 : wrap64 (-(X : Int)) = -(X : Int) := by unfold wrap64; omega); rw [e1, e2, e3]
      cases neg <;> rfl
    · rw [if_pos (by simpa using h), if_neg h]
  refine Ev.congr (fun k => ?_) key
  by_cases h1 : hi X > 0
  · rw [if_pos h1]; congr 1; symm; rw [decide_eq_true_eq]; unfold hi at h1; omega
  · rw [if_neg h1]
    by_cases h2 : hi Y > 0
    · rw [if_pos h2]; congr 1; symm; rw [decide_eq_true_eq]; unfold hi at h2; omega
    · rw [if_neg h2]
      by_cases h3 : lo X > 1152921504606846976
      · rw [if_pos h3]; congr 1; symm; rw [decide_eq_true_eq]; unfold lo at h3; omega
      · rw [if_neg h3]; congr 1; rw [decide_eq_decide]; unfold hi at h1 h2; unfold lo at h3 ⊢; omega

theorem over_ev (neg : Bool) (n g : Nat) (hn : n < 340282366920938463463374607431768211456) (hg : g < 18446744073709551616) (hg0 : 0 < g) :
    Ev (fun k => ratio_wide_over.f k neg (hi n) (lo n) g) (neg, hi (n / g), lo (n / g)) := by
  have hd := div64_ev ((n / 18446744073709551616) % g) (n % 18446744073709551616) g hg (Nat.mod_lt _ (by decide)) (Nat.mod_lt _ hg0)
  have e0 : n / g = n / 18446744073709551616 / g * 18446744073709551616 + ((n / 18446744073709551616) % g * 18446744073709551616 + n % 18446744073709551616) / g := by
    have h1 := Nat.div_add_mod n 18446744073709551616; have h2 := Nat.div_add_mod (n / 18446744073709551616) g
    have h3 : n = g * (n / 18446744073709551616 / g * 18446744073709551616) + ((n / 18446744073709551616) % g * 18446744073709551616 + n % 18446744073709551616) := by
      rw [← Nat.mul_assoc]; obtain ⟨A, hA⟩ : ∃ A, g * (n / 18446744073709551616 / g) = A := ⟨_, rfl⟩; obtain ⟨B, hB⟩ : ∃ B, n / 18446744073709551616 % g = B := ⟨_, rfl⟩; rw [hA, hB] at h2 ⊢; omega
    conv => lhs; rw [h3]
    rw [Nat.mul_add_div hg0]
  have hlt : ((n / 18446744073709551616) % g * 18446744073709551616 + n % 18446744073709551616) / g < 18446744073709551616 := by
    rw [Nat.div_lt_iff_lt_mul hg0]; have h1 := Nat.mod_lt (n / 18446744073709551616) hg0; have h2 := Nat.mod_lt n (show 0 < 18446744073709551616 by decide); have h3 : (n / 18446744073709551616 % g + 1) * 18446744073709551616 ≤ g * 18446744073709551616 := Nat.mul_le_mul_right _ h1; rw [Nat.mul_comm 18446744073709551616 g]; omega
  have hq : n / 18446744073709551616 / g ≤ n / 18446744073709551616 := Nat.div_le_self _ _; obtain ⟨A, hA⟩ : ∃ A, n / 18446744073709551616 / g = A := ⟨_, rfl⟩; obtain ⟨B, hB⟩ : ∃ B, ((n / 18446744073709551616) % g * 18446744073709551616 + n % 18446744073709551616) / g = B := ⟨_, rfl⟩; rw [hA, hB] at e0; rw [hB] at hlt hd; rw [hA] at hq; (have a1 : hi (n / g) = (A : Int) := by unfold hi; omega); (have a2 : lo (n / g) = (B : Int) := by unfold lo; omega); rw [a1, a2]; refine Ev.congr (f := fun k => (bits_Div64.f k ((n / 18446744073709551616 % g : Nat) : Int) ((n % 18446744073709551616 : Nat) : Int) (g : Int)).bind fun b => some (neg, (A : Int), b.1)) (fun k => ?_) ?_
  · unfold ratio_wide_over.f hi lo
    rw [if_neg (by omega)]; have e4 : Int.tmod (((n / 18446744073709551616 : Nat) : Int)) (g : Int) = ((n / 18446744073709551616 % g : Nat) : Int) := rfl; have e5 : Int.tdiv (((n / 18446744073709551616 : Nat) : Int)) (g : Int) = ((n / 18446744073709551616 / g : Nat) : Int) := rfl; rw [e4, e5, hA]; rw [show IntKind.u64.wrap (A : Int) = (A : Int) from by rw [wu]; omega]
  · obtain ⟨K, hK⟩ := hd
    refine ⟨K, fun k hk => ?_⟩; have hk2 := hK k hk; dsimp only at hk2 ⊢; rw [hk2]; rfl

theorem lowest_ev (neg : Bool) (n d : Nat) (hn : n < 340282366920938463463374607431768211456) (hd : d < 18446744073709551616) (hd0 : 0 < d) :
    Ev (fun k => ratio_lowest.f k neg (hi n) (lo n) d) (red neg n d) := by
  have hg0 : 0 < Nat.gcd n d := Nat.gcd_pos_of_pos_right _ hd0; have hgd : Nat.gcd n d ≤ d := Nat.gcd_le_right _ hd0; (have hrem : (n / 18446744073709551616) * 18446744073709551616 + n % 18446744073709551616 = n := by omega); refine Ev.congr (fun k => by unfold ratio_lowest.f; rfl) ?_; have r1 := rem64_ev (n / 18446744073709551616) (n % 18446744073709551616) d hd (Nat.mod_lt _ (by decide)) hd0; rw [hrem] at r1; refine Ev.bind r1 ?_; have r2 := gcd_ev (n % d) d; rw [show Nat.gcd d (n % d) = Nat.gcd n d from by rw [Nat.gcd_comm n d, Nat.gcd_rec d n, Nat.gcd_comm]] at r2; refine Ev.bind r2 ?_; refine Ev.bind (over_ev neg n (Nat.gcd n d) hn (by omega) hg0) ?_; have hX := Nat.div_le_self n (Nat.gcd n d); have hY := Nat.div_le_self d (Nat.gcd n d); have e5 : Int.tdiv (d : Int) ((Nat.gcd n d : Nat) : Int) = ((d / Nat.gcd n d : Nat) : Int) := rfl; unfold red; rw [e5]; obtain ⟨X, hXe⟩ : ∃ X, n / Nat.gcd n d = X := ⟨_, rfl⟩; obtain ⟨Y, hYe⟩ : ∃ Y, d / Nat.gcd n d = Y := ⟨_, rfl⟩; rw [hXe] at hX; rw [hYe] at hY; simp only [hXe, hYe]; rw [show IntKind.u64.wrap (Y : Int) = (Y : Int) from by rw [wu]; omega]
  have key : Ev (fun k => ratio_lowest.j0 k Y (decide (¬ (X ≤ 1152921504606846976 ∧ Y ≤ 1152921504606846976))) neg (hi X) (lo X)) (if X ≤ 1152921504606846976 ∧ Y ≤ 1152921504606846976 then ((if neg then -(X : Int) else (X : Int)), (Y : Int), (0 : Int)) else (0, 0, 6)) := by
    refine ev_some (fun k => ?_); simp only [ratio_lowest.j0, decide_eq_true_eq]
    by_cases h : X ≤ 1152921504606846976 ∧ Y ≤ 1152921504606846976
    · rw [if_neg (by simpa using h), if_pos h]
      (have e1 : wrap64 (lo X) = (X : Int) := by unfold wrap64 lo; omega); (have e2 : wrap64 (Y : Int) = (Y : Int) := by unfold wrap64; omega); (have e3 : wrap64 (-(X : Int)) = -(X : Int) := by unfold wrap64; omega); rw [e1, e2, e3]
      cases neg <;> rfl
    · rw [if_pos (by simpa using h), if_neg h]
  refine Ev.congr (fun k => ?_) key; rw [if_neg (by omega)]
  by_cases h1 : hi X = 0
  · rw [if_pos h1]
    by_cases h3 : lo X > 1152921504606846976
    · rw [if_pos h3]; congr 1; symm; rw [decide_eq_true_eq]; unfold lo at h3; omega
    · rw [if_neg h3]; congr 1; rw [decide_eq_decide]; unfold hi at h1; unfold lo at h3; omega
  · rw [if_neg h1]; congr 1; symm; rw [decide_eq_true_eq]; unfold hi at h1; omega

theorem abs_eq {a : Int} (h : I64 a) : ratio_abs.f a = some (a.natAbs : Int) := by
  unfold ratio_abs.f I64 at *
  split <;> simp only [Option.some.injEq, wu] <;> (try unfold wrap64) <;> omega
theorem size_eq {a : Int} (h : I64 a) : r1_Size.f a = some (a.natAbs : Int) := by
  unfold r1_Size.f I64 at *
  split <;> simp only [Option.some.injEq, wu] <;> (try unfold wrap64) <;> omega

/-- New's result -/
def newR (a b : Int) : Int × Int × Int := if b = 0 then (0, 0, 2) else red ((decide (a < 0)) != (decide (b < 0))) a.natAbs b.natAbs
theorem abs_lt {a : Int} (h : I64 a) : a.natAbs < 18446744073709551616 := by unfold I64 at h; omega
theorem hi_small {n : Nat} (h : n < 18446744073709551616) : hi n = 0 := by unfold hi; omega
theorem lo_small {n : Nat} (h : n < 18446744073709551616) : lo n = (n : Int) := by unfold lo; omega

theorem rnew_ev {a b : Int} (ha : I64 a) (hb : I64 b) : Ev (fun k => ratio_New.f k a b) (newR a b) := by
  unfold newR
  by_cases h : b = 0
  · rw [if_pos h]; refine Ev.congr (fun k => by unfold ratio_New.f; rw [if_pos h]) (Ev.now _)
  · rw [if_neg h]
    have := lowest_ev ((decide (a < 0)) != (decide (b < 0))) a.natAbs b.natAbs (by have := abs_lt ha; omega) (abs_lt hb) (by omega); rw [hi_small (abs_lt ha), lo_small (abs_lt ha)] at this; refine Ev.congr (fun k => ?_) (Ev.bind (f := fun _ (t : Int × Int × Int) => some (t.1, t.2.1, t.2.2)) this (Ev.now _)); unfold ratio_New.f; rw [if_neg h, abs_eq ha, abs_eq hb, Option.bind_some, Option.bind_some]
theorem fnew_ev {a b : Int} (ha : I64 a) (hb : I64 b) : Ev (fun k => r1_New.f k a b) (newR a b) := by
  unfold newR
  by_cases h : b = 0
  · rw [if_pos h]; refine Ev.congr (fun k => by unfold r1_New.f; rw [if_pos h]) (Ev.now _)
  · rw [if_neg h]
    have := reduce_ev ((decide (a < 0)) != (decide (b < 0))) a.natAbs b.natAbs (by have := abs_lt ha; omega) (by have := abs_lt hb; omega) (by omega); rw [hi_small (abs_lt ha), lo_small (abs_lt ha), hi_small (abs_lt hb), lo_small (abs_lt hb)] at this; refine Ev.congr (fun k => ?_) (Ev.bind (f := fun _ (t : Int × Int × Int) => some (t.1, t.2.1, t.2.2)) this (Ev.now _)); unfold r1_New.f; rw [if_neg h, size_eq ha, size_eq hb, Option.bind_some, Option.bind_some]

/-- which fractions are valid -/
def okR (a b : Int) : Prop := (1 ≤ b ∧ b ≤ 1152921504606846976 ∧ -1152921504606846976 ≤ a ∧ a ≤ 1152921504606846976) ∧ Nat.gcd a.natAbs b.natAbs = 1
instance (a b : Int) : Decidable (okR a b) := by unfold okR; infer_instance
theorem rvalid_ev (a b : Int) : Ev (fun k => ratio_Valid.f k a b) (decide (okR a b)) := by
  by_cases h : 1 ≤ b ∧ b ≤ 1152921504606846976 ∧ -1152921504606846976 ≤ a ∧ a ≤ 1152921504606846976
  · have e : decide (okR a b) = (((Nat.gcd a.natAbs b.natAbs : Nat) : Int) == 1) := by
      rw [Bool.eq_iff_iff, decide_eq_true_eq, beq_iff_eq]; unfold okR; omega
    rw [e]; (have ha : I64 a := by unfold I64; omega); refine Ev.congr (fun k => ?_) (Ev.bind (f := fun _ t => some (t == 1)) (gcd_ev b.natAbs a.natAbs) (Ev.now _)); unfold ratio_Valid.f; rw [if_pos h.1, if_pos h.2.1, if_pos h.2.2.1, if_pos h.2.2.2, abs_eq ha, Option.bind_some]; rw [show IntKind.u64.wrap b = (b.natAbs : Int) from by rw [wu]; omega]
  · have e : decide (okR a b) = false := by rw [decide_eq_false_iff_not]; unfold okR; exact fun c => h c.1
    rw [e]; refine Ev.congr (fun k => ?_) (Ev.now _); unfold ratio_Valid.f
    by_cases h1 : b ≥ 1
    · rw [if_pos h1]
      by_cases h2 : b ≤ 1152921504606846976
      · rw [if_pos h2]
        by_cases h3 : a ≥ -1152921504606846976
        · rw [if_pos h3, if_neg (fun h4 => h ⟨h1, h2, h3, h4⟩)]
        · rw [if_neg h3]
      · rw [if_neg h2]
    · rw [if_neg h1]
theorem fvalid_ev (a b : Int) : Ev (fun k => r1_Valid.f k a b) (decide (okR a b)) := by
  have hf : ¬ (1 ≤ b ∧ b ≤ 1152921504606846976 ∧ -1152921504606846976 ≤ a ∧ a ≤ 1152921504606846976) → Ev (fun k => r1_Valid.j0 k true a b) (decide (okR a b)) := by
    intro h; (have e : decide (okR a b) = false := by rw [decide_eq_false_iff_not]; unfold okR; exact fun c => h c.1); rw [e]; refine ev_some (fun k => ?_); simp only [r1_Valid.j0]; rw [if_pos trivial]
  have ht : (1 ≤ b ∧ b ≤ 1152921504606846976 ∧ -1152921504606846976 ≤ a ∧ a ≤ 1152921504606846976) → Ev (fun k => r1_Valid.j0 k false a b) (decide (okR a b)) := by
    intro h; (have ha : I64 a := by unfold I64; omega); (have hb : I64 b := by unfold I64; omega); have hd := divisor_ev b.natAbs a.natAbs (by have := abs_lt ha; omega) (by have := abs_lt hb; omega)
    have hg : Nat.gcd a.natAbs b.natAbs < 18446744073709551616 := by
      have := Nat.gcd_le_right a.natAbs (show 0 < b.natAbs by omega); omega
    rw [hi_small (abs_lt ha), lo_small (abs_lt ha), hi_small (abs_lt hb), lo_small (abs_lt hb), hi_small hg, lo_small hg] at hd
    have e : decide (okR a b) = (((0 : Int) == 0) && (((Nat.gcd a.natAbs b.natAbs : Nat) : Int) == 1)) := by
      rw [Bool.eq_iff_iff, decide_eq_true_eq]; unfold okR; simp; omega
    rw [e]; refine Ev.step (fun k => ?_) (Ev.bind (f := fun _ (t : Int × Int) => some (t.1 == 0 && (t.2 == 1))) hd (Ev.now _)); simp only [r1_Valid.j0]; rw [if_neg (by decide), size_eq ha, size_eq hb, Option.bind_some, Option.bind_some]
  by_cases h1 : b < 1
  · exact Ev.congr (fun k => by unfold r1_Valid.f; rw [if_pos h1]) (hf (by omega))
  · by_cases h2 : b > 1152921504606846976
    · exact Ev.congr (fun k => by unfold r1_Valid.f; rw [if_neg h1, if_pos h2]) (hf (by omega))
    · by_cases h3 : a < -1152921504606846976
      · exact Ev.congr (fun k => by unfold r1_Valid.f; rw [if_neg h1, if_neg h2, if_pos h3]) (hf (by omega))
      · by_cases h4 : a > 1152921504606846976
        · exact Ev.congr (fun k => by unfold r1_Valid.f; rw [if_neg h1, if_neg h2, if_neg h3, decide_eq_true h4]) (hf (by omega))
        · exact Ev.congr (fun k => by unfold r1_Valid.f; rw [if_neg h1, if_neg h2, if_neg h3, decide_eq_false h4]) (ht (by omega))
end Go.Proofs.YtbapkiclgkddcaaDoor.Mth

-- Printed by gp.py (a program of this session's own, over the kit's printer) out of the translation; Lean checks it.
namespace Go.Proofs.YtbapkiclgkddcaaDoor.G
open Go.Proofs.YtbapkiclgkddcaaDoor.Given Go.Proofs.YtbapkiclgkddcaaDoor.Short
open Go.RowKit Go.Proofs.YtbapkiclgkddcaaDoorW.PrintWords Go.Proofs.YtbapkiclgkddcaaDoorW.PrintLast Go.Proofs.YtbapkiclgkddcaaDoorW.PrintMore
attribute [local go_sem] max2_int min2_int max_two min_two max_three min_three max_four min_four   -- for this text's walks alone
set_option linter.unusedVariables false
set_option linter.unusedSimpArgs false

/-! ### ratio_times: function 71 -/
def ratio_times.f (a0 : Int) (a1 : Int) : Option (Bool × Int × Int) := (ratio_abs.f a0).bind fun t482 => ((bits_Mul64.f t482 a1).bind fun bt483 => (some (decide (a0 < 0), bt483.1, bt483.2)))
set_option maxHeartbeats 8000000 in
set_option maxRecDepth 100000 in
theorem ratio_times.calls (a0 : Int) (a1 : Int) (r1 : Bool) (r2 : Int) (r3 : Int) (w : World) (h : ratio_times.f a0 a1 = some (r1, r2, r3)) :
  Calls Tryd.prog 71 #[.int .i64 a0, .int .u64 a1] w fun e w' => e = .returned (.agg #[.bool r1, .int .u64 r2, .int .u64 r3]) ∧ Below w.heap.size w w' := by
 have hu58 := Tryd.underlying58; have HB := Aside0.mk (Below.refl w.heap.size w); have H : ((ratio_abs.f a0).bind fun t482 => ((bits_Mul64.f t482 a1).bind fun bt483 => (some (decide (a0 < 0), bt483.1, bt483.2)))) = some (r1, r2, r3) := h; clear h; replace H := Option.bind_eq_some_iff.mp H; obtain ⟨t482, A30, H⟩ := H; (try dsimp only at H); have A3 := Aside0.mk A30; clear A30; replace H := Option.bind_eq_some_iff.mp H; obtain ⟨⟨t483, t484⟩, A40, H⟩ := H; (try dsimp only at H); have A4 := Aside0.mk A40; clear A40; simp only [Option.some.injEq, Prod.mk.injEq] at H; obtain ⟨rfl, rfl, rfl⟩ := H; (go_enter Tryd.func71, Tryd.ntmps71); (go_wp2_with (first | ((with_reducible refine gate_dst (N := 4) rfl ?_); refine bx (N := 4) (cs := #[.bool false, .int .u64 0, .int .u64 0]) (t := 58) ?_; intro gb481 hg w5 hbox hb; have BK481 := Aside0.mk (hbox); have GW481 := gs HB hg; have GE481 := gs HB hg; replace HB := wb HB hb; clear hb hbox hg) | ((with_reducible refine gate_callee (f := 41) rfl ?_); refine gl (some 9) Tryd.func41 #[.int .i64 a0] ?_; (with_reducible refine (ratio_abs.calls a0 t482 _ A3.out).mono ?_); rintro e w' ⟨rfl, ⟨nd, rfl⟩⟩; refine ⟨_, rfl, ?_⟩; (try (rw [drewN_self w5]; generalize hq_ : World.drewN w5 _ = w5; replace BK481 : Aside0 (w5.heap[gb481]? = some (.cells #[.bool false, .int .u64 0, .int .u64 0] 58 (0, 0))) := ⟨by rw [← hq_]; exact (bq BK481)⟩; replace HB : Aside0 (Below w.heap.size w w5) := ⟨by rw [← hq_]; exact (bw HB)⟩; clear hq_))) | ((with_reducible refine gate_callee (f := 45) rfl ?_); refine gl (some 11) Tryd.func45 #[.int .u64 t482, .int .u64 a1] ?_; (with_reducible refine (bits_Mul64.calls t482 a1 t483 t484 _ A4.out).mono ?_); rintro e w' ⟨rfl, ⟨nd, rfl⟩⟩; refine ⟨_, rfl, ?_⟩; (try (rw [drewN_self w5]; generalize hq_ : World.drewN w5 _ = w5; replace BK481 : Aside0 (w5.heap[gb481]? = some (.cells #[.bool false, .int .u64 0, .int .u64 0] 58 (0, 0))) := ⟨by rw [← hq_]; exact (bq BK481)⟩; replace HB : Aside0 (Below w.heap.size w w5) := ⟨by rw [← hq_]; exact (bw HB)⟩; clear hq_)); have hcz6_0 : w5.cell? ⟨gb481, 0, none⟩ = some (.bool false) := bc BK481 0; have hcz6_1 : w5.cell? ⟨gb481, 1, none⟩ = some (.int .u64 0) := bc BK481 1; have hcz6_2 : w5.cell? ⟨gb481, 2, none⟩ = some (.int .u64 0) := bc BK481 2; have hfz6_0 := blk_frozen BK481.out 0; have hfz6_1 := blk_frozen BK481.out 1; have hfz6_2 := blk_frozen BK481.out 2))); refine bodyPost_ret (results_cell_row rfl _ _ gb481 58 #[.bool (decide (a0 < 0)), .int .u64 t483, .int .u64 t484] (0, 0) _ rfl (by refine pe ?_; refine blk_put (cs := #[.bool (decide (a0 < 0)), .int .u64 t483, .int .u64 0]) ?_ 2 _ rfl; refine pe ?_; refine blk_put (cs := #[.bool (decide (a0 < 0)), .int .u64 0, .int .u64 0]) ?_ 1 _ rfl; refine pe ?_; refine blk_put (cs := #[.bool false, .int .u64 0, .int .u64 0]) ?_ 0 _ rfl; refine pe ?_; exact BK481.out) Tryd.underlying58 rfl (by kernel_rfl)) rfl ?_; exact ⟨by first | rfl | (simp [errW_none, errW_some] <;> rfl) | (simp [*, errW_none, errW_some] <;> rfl), bw HB⟩

end Go.Proofs.YtbapkiclgkddcaaDoor.G
