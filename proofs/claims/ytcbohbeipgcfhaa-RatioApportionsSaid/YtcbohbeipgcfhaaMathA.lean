/- Plain arithmetic, proved for all natural numbers in the stated bounds: division of a number of two digits by schoolbook quotient digits (Knuth's step), and long division bit by bit. -/
namespace Go.Proofs.Ytcbohbeipgcfhaa.Mth

/-- What the loop of a quotient digit keeps: u = q v1 + r, q not below the true digit, q small. -/
structure Kn (v1 v0 u d q r : Nat) : Prop where
  e : u = q * v1 + r
  ge : (u * 4294967296 + d) / (v1 * 4294967296 + v0) ≤ q
  le : q ≤ 4294967296 + 1
  v1lo : 2147483648 ≤ v1
  v1hi : v1 < 4294967296
  v0hi : v0 < 4294967296
  uhi : u < v1 * 4294967296 + v0
  dhi : d < 4294967296

theorem Kn.start {v1 v0 u d : Nat} (v1lo : 2147483648 ≤ v1) (v1hi : v1 < 4294967296) (v0hi : v0 < 4294967296) (uhi : u < v1 * 4294967296 + v0) (dhi : d < 4294967296) :
    Kn v1 v0 u d (u / v1) (u % v1) := by
  refine ⟨?_, ?_, ?_, v1lo, v1hi, v0hi, uhi, dhi⟩
  · rw [Nat.mul_comm]; exact (Nat.div_add_mod u v1).symm
  · -- Q ≤ u / v1
    have hv : 0 < v1 := by omega
    rw [Nat.le_div_iff_mul_le hv]
    have h1 : (u * 4294967296 + d) / (v1 * 4294967296 + v0) * (v1 * 4294967296 + v0) ≤ u * 4294967296 + d := Nat.div_mul_le_self _ _
    generalize (u * 4294967296 + d) / (v1 * 4294967296 + v0) = Q at *
    have h2 : Q * (v1 * 4294967296 + v0) = Q * v1 * 4294967296 + Q * v0 := by rw [Nat.mul_add, Nat.mul_assoc]
    rw [h2] at h1
    have : Q * v1 * 4294967296 < (u + 1) * 4294967296 := by
      have : (u + 1) * 4294967296 = u * 4294967296 + 4294967296 := Nat.succ_mul _ _
      omega
    have := Nat.lt_of_mul_lt_mul_right this
    omega
  · have hv : 0 < v1 := by omega
    have : u / v1 < 4294967296 + 2 := by
      rw [Nat.div_lt_iff_lt_mul hv]
      have : (4294967296 + 2) * v1 = v1 * 4294967296 + 2 * v1 := by rw [Nat.add_mul, Nat.mul_comm]
      omega
    omega

theorem Kn.q_lt {v1 v0 u d q r : Nat} (h : Kn v1 v0 u d q r) : (u * 4294967296 + d) / (v1 * 4294967296 + v0) < 4294967296 := by
  have hv : 0 < v1 * 4294967296 + v0 := by have := h.uhi; omega
  rw [Nat.div_lt_iff_lt_mul hv]
  have h1 : (u + 1) * 4294967296 ≤ (v1 * 4294967296 + v0) * 4294967296 := Nat.mul_le_mul_right _ h.uhi
  have h2 : (u + 1) * 4294967296 = u * 4294967296 + 4294967296 := Nat.succ_mul _ _
  have := h.dhi
  omega

theorem Kn.qv {v1 v0 u d q r : Nat} (h : Kn v1 v0 u d q r) : q * (v1 * 4294967296 + v0) = u * 4294967296 - r * 4294967296 + q * v0 ∧ r * 4294967296 ≤ u * 4294967296 := by
  have h2 : q * (v1 * 4294967296 + v0) = q * v1 * 4294967296 + q * v0 := by rw [Nat.mul_add, Nat.mul_assoc]
  have h3 : u * 4294967296 = q * v1 * 4294967296 + r * 4294967296 := by rw [h.e, Nat.add_mul]
  omega

/-- the digit is too great -/
theorem Kn.next {v1 v0 u d q r : Nat} (h : Kn v1 v0 u d q r) (ht : 4294967296 ≤ q ∨ 4294967296 * r + d < q * v0) : 1 ≤ q ∧ Kn v1 v0 u d (q - 1) (r + v1) := by
  have hlt : (u * 4294967296 + d) / (v1 * 4294967296 + v0) < q := by
    rcases ht with ht | ht
    · exact Nat.lt_of_lt_of_le h.q_lt ht
    · have hv : 0 < v1 * 4294967296 + v0 := by have := h.uhi; omega
      rw [Nat.div_lt_iff_lt_mul hv]
      have := h.qv
      omega
  have hq : 1 ≤ q := Nat.lt_of_le_of_lt (Nat.zero_le _) hlt
  refine ⟨hq, ?_, by omega, by have := h.le; omega, h.v1lo, h.v1hi, h.v0hi, h.uhi, h.dhi⟩
  have := h.e
  obtain ⟨q', rfl⟩ : ∃ q', q = q' + 1 := ⟨q - 1, by omega⟩
  rw [Nat.add_sub_cancel]
  rw [Nat.succ_mul] at this
  omega

theorem Kn.done {v1 v0 u d q r : Nat} (h : Kn v1 v0 u d q r) (ht : q * v0 ≤ 4294967296 * r + d) : q = (u * 4294967296 + d) / (v1 * 4294967296 + v0) := by
  have hv : 0 < v1 * 4294967296 + v0 := by have := h.uhi; omega
  have : q ≤ (u * 4294967296 + d) / (v1 * 4294967296 + v0) := by
    rw [Nat.le_div_iff_mul_le hv]
    have := h.qv
    omega
  have := h.ge
  omega

theorem Kn.qv0 {v1 v0 u d q r : Nat} (h : Kn v1 v0 u d q r) : q * v0 < 18446744073709551616 := by
  have h1 : q * v0 ≤ (4294967296 + 1) * (4294967296 - 1) := Nat.mul_le_mul h.le (by have := h.v0hi; omega)
  omega

theorem Kn.brk {v1 v0 u d q r : Nat} (h : Kn v1 v0 u d q r) (hr : 4294967296 ≤ r) : q * v0 ≤ 4294967296 * r + d := by
  have h1 : q * v0 ≤ (4294967296 + 1) * (4294967296 - 1) := Nat.mul_le_mul h.le (by have := h.v0hi; omega)
  have h2 : 4294967296 * 4294967296 ≤ 4294967296 * r := Nat.mul_le_mul_left _ hr
  omega

theorem digits_two' (B : Nat) {V u d1 d0 q1 m : Nat} (hV : 0 < V) (e : V * q1 + m = u * B + d1) :
    (u * (B * B) + (d1 * B + d0)) / V = q1 * B + (m * B + d0) / V ∧ (u * (B * B) + (d1 * B + d0)) % V = (m * B + d0) % V := by
  have e2 : u * (B * B) + (d1 * B + d0) = V * (q1 * B) + (m * B + d0) := by
    have : (V * q1 + m) * B = (u * B + d1) * B := by rw [e]
    rw [Nat.add_mul, Nat.add_mul, Nat.mul_assoc, Nat.mul_assoc] at this
    omega
  refine ⟨?_, ?_⟩
  · rw [e2, Nat.mul_add_div hV]
  · rw [e2, Nat.mul_add_mod]
/-- The two digits together. -/
theorem digits_two {V u d1 d0 q1 m : Nat} (hV : 0 < V) (e : V * q1 + m = u * 4294967296 + d1) :
    (u * 18446744073709551616 + (d1 * 4294967296 + d0)) / V = q1 * 4294967296 + (m * 4294967296 + d0) / V ∧ (u * 18446744073709551616 + (d1 * 4294967296 + d0)) % V = (m * 4294967296 + d0) % V :=
  digits_two' 4294967296 hV e

/-- Scaling by s. -/
theorem unscale {N y s q r : Nat} (hq : q = (N * 2 ^ s) / (y * 2 ^ s)) (hr : r = (N * 2 ^ s) % (y * 2 ^ s)) : q = N / y ∧ r / 2 ^ s = N % y := by
  have hs : 0 < 2 ^ s := Nat.pow_pos (by decide)
  rw [Nat.mul_div_mul_right _ _ hs] at hq
  rw [Nat.mul_mod_mul_right] at hr
  rw [hr, Nat.mul_div_cancel _ hs]
  exact ⟨hq, rfl⟩
end Go.Proofs.Ytcbohbeipgcfhaa.Mth
