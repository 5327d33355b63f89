/- math/bits.Div64 and Rem64 as the printed functions compute them: quotient and remainder of a number of 128 bits, for a divisor greater than the upper half (Div64) and for each divisor that is not 0 (Rem64). -/
import Derived.Test.YtcbohbeipgcfhaaMathA
import Derived.Test.YtcbohbeipgcfhaaGf76
import Derived.Test.YtcbohbeipgcfhaaGf64
import Derived.Laws.Bits64b
namespace Go.Proofs.Ytcbohbeipgcfhaa.Mth
open Go.RowKit Go.Proofs.Ytcbohbeipgcfhaa.G Go.Proofs.Ytcbohbeipgcfhaa.Given Go.Proofs.YtcbohbeipgcfhaaW.PrintWords Go.Proofs.YtcbohbeipgcfhaaW.PrintLast Go.Proofs.YtcbohbeipgcfhaaW.PrintMore
set_option linter.unusedVariables false

theorem wu (n : Int) : IntKind.u64.wrap n = n % 18446744073709551616 := IntKind.wrap_u64 n
theorem evk {α : Type} {g : Nat → Option α} {f : Nat → Option α} {r : α} (h : ∀ k, g (k + 1) = f k) (k : Ev f r) : Ev g r := Ev.step h k
theorem ev_some {α : Type} {g : Nat → Option α} {r : α} (h : ∀ k, g (k + 1) = some r) : Ev g r := Ev.step h (Ev.now r)

/-- What the second digit's loop ends in. -/
theorem fin_val {V s v1 v0 d q1 r u q : Nat} (hV : V = v1 * 4294967296 + v0) (hK : Kn v1 v0 u d q r) (hq1 : q1 < 4294967296) (hs : s ≤ 64) (hq : q = (u * 4294967296 + d) / V) :
    (some (IntKind.u64.wrap ((IntKind.u64.wrap ((q1 : Int) * 4294967296)) + (q : Int)), shr .u64 (IntKind.u64.wrap ((IntKind.u64.wrap ((IntKind.u64.wrap ((u : Int) * 4294967296)) + (d : Int))) - (IntKind.u64.wrap ((q : Int) * (V : Int))))) (s : Int)) : Option (Int × Int))
      = some (((q1 * 4294967296 + q : Nat) : Int), (((u * 4294967296 + d) % V / 2 ^ s : Nat) : Int)) := by
  have hlt := hK.q_lt
  rw [← hV, ← hq] at hlt
  have hVp : 0 < V := by have := hK.uhi; omega
  have hm : (u * 4294967296 + d) % V < V := Nat.mod_lt _ hVp
  have he := Nat.div_add_mod (u * 4294967296 + d) V
  rw [← hq] at he
  have hc := Nat.mul_comm V q
  have hv1 := hK.v1hi
  have hv0 := hK.v0hi
  have e1 : IntKind.u64.wrap ((IntKind.u64.wrap ((q1 : Int) * 4294967296)) + (q : Int)) = ((q1 * 4294967296 + q : Nat) : Int) := by
    simp only [wu]; omega
  have e2 : IntKind.u64.wrap ((IntKind.u64.wrap ((IntKind.u64.wrap ((u : Int) * 4294967296)) + (d : Int))) - (IntKind.u64.wrap ((q : Int) * (V : Int)))) = (((u * 4294967296 + d) % V : Nat) : Int) := by
    have e3 : (q : Int) * (V : Int) = ((q * V : Nat) : Int) := (Int.natCast_mul q V).symm
    rw [e3]
    generalize (u * 4294967296 + d) % V = m at *
    generalize q * V = P at *
    simp only [wu]; omega
  rw [e1, e2]
  unfold shr
  rw [show min (s : Int).toNat IntKind.u64.bits = s from by simp [IntKind.bits]; omega]
  rfl

theorem l1_ev {V s v1 v0 d q1 u : Nat} (hV : V = v1 * 4294967296 + v0) (hq1 : q1 < 4294967296) (hs : s ≤ 64) : ∀ q r, Kn v1 v0 u d q r → r < 4294967296 →
    Ev (fun k => bits_Div64.l1 k V s v1 v0 d q1 r u q) (((q1 * 4294967296 + (u * 4294967296 + d) / V : Nat) : Int), (((u * 4294967296 + d) % V / 2 ^ s : Nat) : Int)) := by
  intro q
  induction q with
  | zero =>
    intro r hK hr
    have hd : 0 = (u * 4294967296 + d) / V := by rw [hV]; exact hK.done (by omega)
    refine Ev.step (f := fun k => bits_Div64.j4 k V s v1 v0 d q1 r u (0 : Nat) false) (fun k => ?_) (ev_some (fun k => ?_))
    · simp only [bits_Div64.l1]
      rw [if_neg (by omega)]
      congr 1
      have := hK.dhi
      simp only [wu, decide_eq_false_iff_not]
      omega
    · simp only [bits_Div64.j4]
      rw [if_neg (by decide), if_pos (by omega)]
      have := fin_val (s := s) hV hK hq1 hs hd
      rw [← hd]
      exact this
  | succ q ih =>
    intro r hK hr
    have hv0 := hK.v0hi
    have hd' := hK.dhi
    have hP := hK.qv0
    have hle := hK.le
    by_cases ht : 4294967296 ≤ q + 1 ∨ 4294967296 * r + d < (q + 1) * v0
    · have hj : ∀ k, bits_Div64.l1 (k + 1) V s v1 v0 d q1 r u (q + 1 : Nat) = bits_Div64.j4 k V s v1 v0 d q1 r u (q + 1 : Nat) true := by
        intro k
        simp only [bits_Div64.l1]
        by_cases h1 : 4294967296 ≤ q + 1
        · rw [if_pos (by omega)]
        · rw [if_neg (by omega)]
          congr 1
          have ht2 : 4294967296 * r + d < (q + 1) * v0 := by rcases ht with h | h; exact absurd h h1; exact h
          rw [show ((q + 1 : Nat) : Int) * (v0 : Int) = (((q + 1) * v0 : Nat) : Int) from (Int.natCast_mul _ _).symm]
          generalize (q + 1) * v0 = P at *
          simp only [wu, decide_eq_true_eq]
          omega
      obtain ⟨_, hK'⟩ := hK.next ht
      rw [Nat.add_sub_cancel] at hK'
      have hv1 := hK.v1hi
      by_cases hb : 4294967296 ≤ r + v1
      · have hd := hK'.done (hK'.brk hb)
        rw [← hV] at hd
        refine Ev.step hj (ev_some (fun k => ?_))
        simp only [bits_Div64.j4]
        rw [if_pos trivial, if_pos (by simp only [wu]; omega), if_pos (by omega)]
        have := fin_val (s := s) hV hK' hq1 hs hd
        rw [show IntKind.u64.wrap (((q + 1 : Nat) : Int) - 1) = (q : Int) from by simp only [wu]; omega]
        rw [← hd]
        exact this
      · refine Ev.step hj (Ev.step (fun k => ?_) (ih (r + v1) hK' (by omega)))
        simp only [bits_Div64.j4]
        rw [if_pos trivial, if_neg (by simp only [wu]; omega)]
        rw [show IntKind.u64.wrap (((q + 1 : Nat) : Int) - 1) = (q : Int) from by simp only [wu]; omega]
        rw [show IntKind.u64.wrap ((r : Int) + (v1 : Int)) = ((r + v1 : Nat) : Int) from by simp only [wu]; omega]
    · have hn : (q + 1) * v0 ≤ 4294967296 * r + d := by omega
      have hd := hK.done hn
      rw [← hV] at hd
      refine Ev.step (f := fun k => bits_Div64.j4 k V s v1 v0 d q1 r u (q + 1 : Nat) false) (fun k => ?_) (ev_some (fun k => ?_))
      · simp only [bits_Div64.l1]
        rw [if_neg (by omega)]
        congr 1
        rw [show ((q + 1 : Nat) : Int) * (v0 : Int) = (((q + 1) * v0 : Nat) : Int) from (Int.natCast_mul _ _).symm]
        generalize (q + 1) * v0 = P at *
        simp only [wu, decide_eq_false_iff_not]
        omega
      · simp only [bits_Div64.j4]
        rw [if_neg (by decide), if_pos (by omega)]
        have := fin_val (s := s) hV hK hq1 hs hd
        rw [← hd]
        exact this

theorem j2_ev' {V s v1 v0 d1 d0 q1 u m : Nat} (hV : V = v1 * 4294967296 + v0) (hs : s ≤ 64) (v1lo : 2147483648 ≤ v1) (v1hi : v1 < 4294967296) (v0hi : v0 < 4294967296) (d1hi : d1 < 4294967296) (d0hi : d0 < 4294967296) (uhi : u < V) (hq1 : q1 < 4294967296) (he : V * q1 + m = u * 4294967296 + d1) (hm : m < V) :
    Ev (fun k => bits_Div64.j2 k V s v1 v0 u d1 d0 q1) (((q1 * 4294967296 + (m * 4294967296 + d0) / V : Nat) : Int), (((m * 4294967296 + d0) % V / 2 ^ s : Nat) : Int)) := by
  have hVp : 0 < V := by omega
  have e2 : IntKind.u64.wrap ((IntKind.u64.wrap ((IntKind.u64.wrap ((u : Int) * 4294967296)) + (d1 : Int))) - (IntKind.u64.wrap ((q1 : Int) * (V : Int)))) = (m : Int) := by
    have e3 : (q1 : Int) * (V : Int) = ((V * q1 : Nat) : Int) := by rw [Nat.mul_comm]; exact (Int.natCast_mul q1 V).symm
    rw [e3]
    obtain ⟨P, hP⟩ : ∃ P, V * q1 = P := ⟨_, rfl⟩
    rw [hP] at he ⊢
    simp only [wu]; omega
  have hK := Kn.start (u := m) (d := d0) v1lo v1hi v0hi (by omega) d0hi
  have hmq : m / v1 ≤ 4294967297 := hK.le
  refine Ev.step (fun k => ?_) (l1_ev hV hq1 hs _ _ hK (by have := Nat.mod_lt m (show 0 < v1 by omega); omega))
  simp only [bits_Div64.j2]
  rw [if_neg (by omega), e2]
  have e4 : Int.tdiv (m : Int) (v1 : Int) = ((m / v1 : Nat) : Int) := rfl
  have e5 : IntKind.u64.wrap (((m / v1 : Nat) : Int)) = ((m / v1 : Nat) : Int) := by
    obtain ⟨Q, hQ⟩ : ∃ Q, m / v1 = Q := ⟨_, rfl⟩
    rw [hQ] at hmq ⊢
    simp only [wu]; omega
  rw [e4, e5]
  have e6 : IntKind.u64.wrap ((m : Int) - IntKind.u64.wrap (((m / v1 : Nat) : Int) * (v1 : Int))) = ((m % v1 : Nat) : Int) := by
    have h1 := Nat.div_add_mod m v1
    have h2 : ((m / v1 : Nat) : Int) * (v1 : Int) = ((v1 * (m / v1) : Nat) : Int) := by rw [Nat.mul_comm]; exact (Int.natCast_mul _ _).symm
    rw [h2]
    obtain ⟨P, hP⟩ : ∃ P, v1 * (m / v1) = P := ⟨_, rfl⟩
    rw [hP] at h1 ⊢
    simp only [wu]; omega
  rw [e6]

/-- The first digit's loop, and the second behind it. -/
theorem j2_ev {V s v1 v0 d1 d0 q1 u : Nat} (hV : V = v1 * 4294967296 + v0) (hs : s ≤ 64) (v1lo : 2147483648 ≤ v1) (v1hi : v1 < 4294967296) (v0hi : v0 < 4294967296) (d1hi : d1 < 4294967296) (d0hi : d0 < 4294967296) (uhi : u < V) (hq1 : q1 < 4294967296) (hd : q1 = (u * 4294967296 + d1) / V) :
    Ev (fun k => bits_Div64.j2 k V s v1 v0 u d1 d0 q1) (((u * 18446744073709551616 + (d1 * 4294967296 + d0)) / V : Nat), (((u * 18446744073709551616 + (d1 * 4294967296 + d0)) % V / 2 ^ s : Nat) : Int)) := by
  have hVp : 0 < V := by omega
  have he := Nat.div_add_mod (u * 4294967296 + d1) V
  rw [← hd] at he
  obtain ⟨a, b⟩ := digits_two (d0 := d0) hVp he
  rw [a, b]
  exact j2_ev' hV hs v1lo v1hi v0hi d1hi d0hi uhi hq1 he (Nat.mod_lt _ hVp)

theorem l0_ev {V s v1 v0 d1 d0 u : Nat} (hV : V = v1 * 4294967296 + v0) (hs : s ≤ 64) (v1lo : 2147483648 ≤ v1) (v1hi : v1 < 4294967296) (v0hi : v0 < 4294967296) (d1hi : d1 < 4294967296) (d0hi : d0 < 4294967296) (uhi : u < V) :
    ∀ q r, Kn v1 v0 u d1 q r → r < 4294967296 →
    Ev (fun k => bits_Div64.l0 k V s v1 v0 u d1 d0 q r) (((u * 18446744073709551616 + (d1 * 4294967296 + d0)) / V : Nat), (((u * 18446744073709551616 + (d1 * 4294967296 + d0)) % V / 2 ^ s : Nat) : Int)) := by
  have hend : ∀ q r, Kn v1 v0 u d1 q r → q = (u * 4294967296 + d1) / V → Ev (fun k => bits_Div64.j2 k V s v1 v0 u d1 d0 q) (((u * 18446744073709551616 + (d1 * 4294967296 + d0)) / V : Nat), (((u * 18446744073709551616 + (d1 * 4294967296 + d0)) % V / 2 ^ s : Nat) : Int)) := by
    intro q r hK hd
    have hl := hK.q_lt
    rw [← hV, ← hd] at hl
    exact j2_ev hV hs v1lo v1hi v0hi d1hi d0hi uhi hl hd
  intro q
  induction q with
  | zero =>
    intro r hK hr
    have hd : 0 = (u * 4294967296 + d1) / V := by rw [hV]; exact hK.done (by omega)
    refine Ev.step (f := fun k => bits_Div64.j1 k V s v1 v0 u d1 d0 (0 : Nat) r false) (fun k => ?_) (Ev.step (fun k => ?_) (hend 0 r hK hd))
    · simp only [bits_Div64.l0]
      rw [if_neg (by omega)]
      congr 1
      simp only [wu, decide_eq_false_iff_not]
      omega
    · simp only [bits_Div64.j1]
      rw [if_neg (by decide)]
  | succ q ih =>
    intro r hK hr
    have hP := hK.qv0
    have hle := hK.le
    by_cases ht : 4294967296 ≤ q + 1 ∨ 4294967296 * r + d1 < (q + 1) * v0
    · have hj : ∀ k, bits_Div64.l0 (k + 1) V s v1 v0 u d1 d0 (q + 1 : Nat) r = bits_Div64.j1 k V s v1 v0 u d1 d0 (q + 1 : Nat) r true := by
        intro k
        simp only [bits_Div64.l0]
        by_cases h1 : 4294967296 ≤ q + 1
        · rw [if_pos (by omega)]
        · rw [if_neg (by omega)]
          congr 1
          have ht2 : 4294967296 * r + d1 < (q + 1) * v0 := by rcases ht with h | h; exact absurd h h1; exact h
          rw [show ((q + 1 : Nat) : Int) * (v0 : Int) = (((q + 1) * v0 : Nat) : Int) from (Int.natCast_mul _ _).symm]
          generalize (q + 1) * v0 = P at *
          simp only [wu, decide_eq_true_eq]
          omega
      obtain ⟨_, hK'⟩ := hK.next ht
      rw [Nat.add_sub_cancel] at hK'
      by_cases hb : 4294967296 ≤ r + v1
      · have hd := hK'.done (hK'.brk hb)
        rw [← hV] at hd
        refine Ev.step hj (Ev.step (fun k => ?_) (hend q _ hK' hd))
        simp only [bits_Div64.j1]
        rw [if_pos trivial, if_pos (by simp only [wu]; omega)]
        rw [show IntKind.u64.wrap (((q + 1 : Nat) : Int) - 1) = (q : Int) from by simp only [wu]; omega]
      · refine Ev.step hj (Ev.step (fun k => ?_) (ih (r + v1) hK' (by omega)))
        simp only [bits_Div64.j1]
        rw [if_pos trivial, if_neg (by simp only [wu]; omega)]
        rw [show IntKind.u64.wrap (((q + 1 : Nat) : Int) - 1) = (q : Int) from by simp only [wu]; omega]
        rw [show IntKind.u64.wrap ((r : Int) + (v1 : Int)) = ((r + v1 : Nat) : Int) from by simp only [wu]; omega]
    · have hn : (q + 1) * v0 ≤ 4294967296 * r + d1 := by omega
      have hd := hK.done hn
      rw [← hV] at hd
      refine Ev.step (f := fun k => bits_Div64.j1 k V s v1 v0 u d1 d0 (q + 1 : Nat) r false) (fun k => ?_) (Ev.step (fun k => ?_) (hend (q + 1) r hK hd))
      · simp only [bits_Div64.l0]
        rw [if_neg (by omega)]
        congr 1
        rw [show ((q + 1 : Nat) : Int) * (v0 : Int) = (((q + 1) * v0 : Nat) : Int) from (Int.natCast_mul _ _).symm]
        generalize (q + 1) * v0 = P at *
        simp only [wu, decide_eq_false_iff_not]
        omega
      · simp only [bits_Div64.j1]
        rw [if_neg (by decide)]

theorem bitLen_two (y : Nat) (h0 : 0 < y) (h : y < 18446744073709551616) : 2 ^ (Lib.bitLen y - 1) ≤ y ∧ y < 2 ^ Lib.bitLen y ∧ 1 ≤ Lib.bitLen y ∧ Lib.bitLen y ≤ 64 := by
  have main : ∀ (f x : Nat), 0 < x → x < 2 ^ f → 2 ^ (Lib.bitLenAux f x - 1) ≤ x ∧ x < 2 ^ Lib.bitLenAux f x ∧ 1 ≤ Lib.bitLenAux f x ∧ Lib.bitLenAux f x ≤ f := by
    intro f
    induction f with
    | zero => intro x h0 h; simp at h; omega
    | succ f ih =>
      intro x h0 h
      simp only [Lib.bitLenAux]
      rw [if_neg (by omega)]
      by_cases hx : x / 2 = 0
      · rw [hx]
        have : Lib.bitLenAux f 0 = 0 := by cases f <;> simp [Lib.bitLenAux]
        rw [this]
        have : x = 1 := by omega
        subst this
        exact ⟨by decide, by decide, by omega, by omega⟩
      · obtain ⟨a, b, c, d⟩ := ih (x / 2) (by omega) (by rw [Nat.pow_succ] at h; omega)
        refine ⟨?_, ?_, by omega, by omega⟩
        · obtain ⟨n, hn⟩ : ∃ n, Lib.bitLenAux f (x / 2) = n + 1 := ⟨_, (Nat.sub_add_cancel c).symm⟩
          rw [hn] at a ⊢
          rw [show 1 + (n + 1) - 1 = n + 1 from by omega, Nat.pow_succ]
          rw [Nat.add_sub_cancel] at a
          omega
        · rw [Nat.add_comm, Nat.pow_succ]; omega
  exact main 64 y h0 h
end Go.Proofs.Ytcbohbeipgcfhaa.Mth
