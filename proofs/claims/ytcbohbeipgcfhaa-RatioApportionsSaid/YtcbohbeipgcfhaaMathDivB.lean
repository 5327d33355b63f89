/- math/bits.Div64 and Rem64, whole: quotient and remainder of a number of 128 bits, for a divisor greater than the upper half (Div64) and for each divisor that is not 0 (Rem64). -/
import Derived.Test.YtcbohbeipgcfhaaMathDiv
namespace Go.Proofs.Ytcbohbeipgcfhaa.Mth
open Go.RowKit Go.Proofs.Ytcbohbeipgcfhaa.G Go.Proofs.Ytcbohbeipgcfhaa.Given Go.Proofs.YtcbohbeipgcfhaaW.PrintWords Go.Proofs.YtcbohbeipgcfhaaW.PrintLast Go.Proofs.YtcbohbeipgcfhaaW.PrintMore
set_option linter.unusedVariables false

theorem maskN (a : Nat) (ha : a < 18446744073709551616) : Go.bits .and .u64 (a : Int) 4294967295 = ((a % 4294967296 : Nat) : Int) := by
  have h := bits_and_u64_nat a 4294967295 ha (by omega)
  have e : a &&& 4294967295 = a % 4294967296 := Nat.and_two_pow_sub_one_eq_mod a 32
  rw [e] at h
  exact h

theorem shl_nat (a s P : Nat) (hs : s ≤ 64) (hP : 2 ^ s = P) : shl .u64 (a : Int) (s : Int) = ((a * P % 18446744073709551616 : Nat) : Int) := by
  unfold shl
  rw [show min (s : Int).toNat IntKind.u64.bits = s from by simp [IntKind.bits]; omega]
  rw [wu]
  have : ((a : Int) * 2 ^ s) = ((a * P : Nat) : Int) := by rw [← hP]; simp
  rw [this]; rfl
theorem shr_nat (a s P : Nat) (hs : s ≤ 64) (hP : 2 ^ s = P) : shr .u64 (a : Int) (s : Int) = ((a / P : Nat) : Int) := by
  unfold shr
  rw [show min (s : Int).toNat IntKind.u64.bits = s from by simp [IntKind.bits]; omega]
  have : ((2 : Int) ^ s) = ((P : Nat) : Int) := by rw [← hP]; simp
  rw [this]; rfl

theorem scale_split (hi lo P R : Nat) (hPR : R * P = 18446744073709551616) (hP : 0 < P) :
    (hi * 18446744073709551616 + lo) * P = (hi * P + lo / R) * 18446744073709551616 + lo * P % 18446744073709551616 := by
  have h1 : lo * P / 18446744073709551616 = lo / R := by rw [← hPR]; exact Nat.mul_div_mul_right _ _ hP
  have h2 := Nat.div_add_mod (lo * P) 18446744073709551616
  rw [h1] at h2
  have h3 : (hi * 18446744073709551616 + lo) * P = hi * P * 18446744073709551616 + lo * P := by rw [Nat.add_mul, Nat.mul_right_comm]
  rw [h3]
  obtain ⟨X, hX⟩ : ∃ X, lo * P = X := ⟨_, rfl⟩
  obtain ⟨Z, hZ⟩ : ∃ Z, lo / R = Z := ⟨_, rfl⟩
  rw [hX, hZ] at h2
  rw [hX, hZ]
  omega

theorem or_add (a b P s : Nat) (hP : 2 ^ s = P) (hb : b < P) (h : a * P + b < 18446744073709551616) : Go.bits .or .u64 ((a * P : Nat) : Int) (b : Int) = ((a * P + b : Nat) : Int) := by
  rw [bits_or_u64_nat (a * P) b (by omega) (by omega)]
  have : a * P ||| b = a * P + b := by
    rw [← hP] at hb ⊢
    rw [Nat.mul_comm]
    exact (Nat.two_pow_add_eq_or_of_lt hb a).symm
  rw [this]

theorem div64_ev (hi lo y : Nat) (hy : y < 18446744073709551616) (hlo : lo < 18446744073709551616) (h : hi < y) :
    Ev (fun k => bits_Div64.f k hi lo y) (((hi * 18446744073709551616 + lo) / y : Nat), (((hi * 18446744073709551616 + lo) % y : Nat) : Int)) := by
  by_cases h0 : hi = 0
  · subst h0
    rw [Nat.zero_mul, Nat.zero_add]
    refine Ev.congr (fun k => ?_) (Ev.now _)
    unfold bits_Div64.f
    rw [if_neg (by omega), if_neg (by omega), if_pos (by rfl)]
    have e4 : Int.tdiv (lo : Int) (y : Int) = ((lo / y : Nat) : Int) := rfl
    have e5 : Int.tmod (lo : Int) (y : Int) = ((lo % y : Nat) : Int) := rfl
    have hle : lo / y ≤ lo := Nat.div_le_self _ _
    rw [e4, e5]
    obtain ⟨Q, hQ⟩ : ∃ Q, lo / y = Q := ⟨_, rfl⟩
    rw [hQ] at hle ⊢
    rw [show IntKind.u64.wrap (Q : Int) = (Q : Int) from by simp only [wu]; omega]
  · obtain ⟨b1, b2, b3, b4⟩ := bitLen_two y (by omega) hy
    obtain ⟨n, hn⟩ : ∃ n, Lib.bitLen y = n := ⟨_, rfl⟩
    have hlz : bits_LeadingZeros64.f (y : Int) = some (((64 - n : Nat) : Int)) := by
      unfold bits_LeadingZeros64.f bits_Len64.f
      rw [if_pos (by omega), Option.bind_some]
      rw [show ((y : Int).toNat) = y from by omega, hn]
      rw [hn] at b4
      rw [show wrap64 (64 - (n : Int)) = ((64 - n : Nat) : Int) from by unfold wrap64; omega]
    rw [hn] at b1 b2 b3 b4
    obtain ⟨s, hs⟩ : ∃ s, 64 - n = s := ⟨_, rfl⟩
    rw [hs] at hlz
    obtain ⟨P, hP⟩ : ∃ P, 2 ^ s = P := ⟨_, rfl⟩
    obtain ⟨R, hR⟩ : ∃ R, 2 ^ (64 - s) = R := ⟨_, rfl⟩
    have hP0 : 0 < P := by rw [← hP]; exact Nat.pow_pos (by decide)
    have hPR : R * P = 18446744073709551616 := by
      rw [← hP, ← hR, ← Nat.pow_add, show 64 - s + s = 64 from by omega]
    have hyP : y * P < 18446744073709551616 := by
      rw [← hPR]
      refine Nat.mul_lt_mul_of_pos_right ?_ hP0
      rw [← hR, show 64 - s = n from by omega]; exact b2
    have hyP2 : 9223372036854775808 ≤ y * P := by
      have : 2 ^ (n - 1) * 2 ^ s ≤ y * P := by rw [hP]; exact Nat.mul_le_mul_right _ b1
      rw [← Nat.pow_add, show n - 1 + s = 63 from by omega] at this
      exact this
    have hhiP : (hi + 1) * P ≤ y * P := Nat.mul_le_mul_right _ h
    rw [Nat.succ_mul] at hhiP
    have hloR : lo / R < P := by
      rw [Nat.div_lt_iff_lt_mul (by rw [← hR]; exact Nat.pow_pos (by decide)), Nat.mul_comm, hPR]; exact hlo
    have hsp := scale_split hi lo P R hPR hP0
    obtain ⟨V, hV⟩ : ∃ V, y * P = V := ⟨_, rfl⟩
    obtain ⟨u, hu⟩ : ∃ u, hi * P + lo / R = u := ⟨_, rfl⟩
    obtain ⟨t, ht⟩ : ∃ t, lo * P % 18446744073709551616 = t := ⟨_, rfl⟩
    have htb : t < 18446744073709551616 := by rw [← ht]; exact Nat.mod_lt _ (by decide)
    have eV : shl .u64 (y : Int) (s : Int) = (V : Int) := by rw [shl_nat y s P (by omega) hP, hV, Nat.mod_eq_of_lt (by omega)]
    have eHi : shl .u64 (hi : Int) (s : Int) = ((hi * P : Nat) : Int) := by rw [shl_nat hi s P (by omega) hP, Nat.mod_eq_of_lt (by omega)]
    have eLo : shl .u64 (lo : Int) (s : Int) = (t : Int) := by rw [shl_nat lo s P (by omega) hP, ht]
    have ew : IntKind.u64.wrap (s : Int) = (s : Int) := by simp only [wu]; omega
    have ew2 : IntKind.u64.wrap (64 - (s : Int)) = ((64 - s : Nat) : Int) := by simp only [wu]; omega
    have eR : shr .u64 (lo : Int) ((64 - s : Nat) : Int) = ((lo / R : Nat) : Int) := shr_nat lo (64 - s) R (by omega) hR
    have eU : Go.bits .or .u64 ((hi * P : Nat) : Int) ((lo / R : Nat) : Int) = (u : Int) := by
      rw [or_add hi (lo / R) P s hP hloR (by omega), hu]
    rw [hV] at hyP hyP2 hhiP
    have huV : u < V := by omega
    rw [hu, ht] at hsp
    have hVs : V = (V / 4294967296) * 4294967296 + V % 4294967296 := by omega
    have hv1 : 2147483648 ≤ V / 4294967296 := by omega
    have hK := Kn.start (v1 := V / 4294967296) (v0 := V % 4294967296) (u := u) (d := t / 4294967296) hv1 (by omega) (by omega) (by omega) (by omega)
    have hr : u % (V / 4294967296) < 4294967296 := by have := Nat.mod_lt u (show 0 < V / 4294967296 by omega); omega
    have hev := l0_ev (V := V) (s := s) (d1 := t / 4294967296) (d0 := t % 4294967296) hVs (by omega) hv1 (by omega) (by omega) (by omega) (by omega) huV _ _ hK hr
    rw [show t / 4294967296 * 4294967296 + t % 4294967296 = t from by omega, ← hsp] at hev
    obtain ⟨r1, r2⟩ := unscale (N := hi * 18446744073709551616 + lo) (y := y) (s := s) (q := (hi * 18446744073709551616 + lo) * P / V) (r := (hi * 18446744073709551616 + lo) * P % V) (by rw [hP, hV]) (by rw [hP, hV])
    rw [r1, r2] at hev
    refine Ev.congr (fun k => ?_) hev
    unfold bits_Div64.f
    rw [if_neg (by omega), if_neg (by omega), if_neg (by omega), hlz, Option.bind_some]
    rw [ew, if_pos (by omega), ew2, if_pos (by omega), eV, if_neg (by omega), eHi, eLo, eR, eU, maskN V (by omega), maskN t (by omega)]
    have e4 : ((V : Int) / 4294967296) = ((V / 4294967296 : Nat) : Int) := by omega
    have e5 : ((t : Int) / 4294967296) = ((t / 4294967296 : Nat) : Int) := by omega
    rw [e4, e5]
    obtain ⟨v1, hv1e⟩ : ∃ v1, V / 4294967296 = v1 := ⟨_, rfl⟩
    rw [hv1e] at hK hr hv1 ⊢
    have e6 : Int.tdiv (u : Int) (v1 : Int) = ((u / v1 : Nat) : Int) := rfl
    rw [e6]
    have hq := hK.le
    have hdm := Nat.div_add_mod u v1
    obtain ⟨Q, hQ⟩ : ∃ Q, u / v1 = Q := ⟨_, rfl⟩
    rw [hQ] at hq hdm ⊢
    rw [show IntKind.u64.wrap (Q : Int) = (Q : Int) from by simp only [wu]; omega]
    rw [show IntKind.u64.wrap ((u : Int) - IntKind.u64.wrap ((Q : Int) * (v1 : Int))) = ((u % v1 : Nat) : Int) from by
      rw [show (Q : Int) * (v1 : Int) = ((v1 * Q : Nat) : Int) from by rw [Nat.mul_comm]; exact (Int.natCast_mul _ _).symm]
      obtain ⟨T, hT⟩ : ∃ T, v1 * Q = T := ⟨_, rfl⟩
      obtain ⟨M, hM⟩ : ∃ M, u % v1 = M := ⟨_, rfl⟩
      rw [hT, hM] at hdm
      rw [hT, hM]
      have hM2 : M ≤ u := by rw [← hM]; exact Nat.mod_le _ _
      simp only [wu]; omega]

theorem rem64_ev (hi lo y : Nat) (hy : y < 18446744073709551616) (hlo : lo < 18446744073709551616) (h : 0 < y) :
    Ev (fun k => bits_Rem64.f k hi lo y) (((hi * 18446744073709551616 + lo) % y : Nat) : Int) := by
  have hd := div64_ev (hi % y) lo y hy hlo (Nat.mod_lt _ h)
  have e : (hi % y * 18446744073709551616 + lo) % y = (hi * 18446744073709551616 + lo) % y := by
    rw [Nat.add_mod, Nat.mul_mod, Nat.mod_mod, ← Nat.mul_mod, ← Nat.add_mod]
  rw [e] at hd
  refine Ev.congr (fun k => ?_) (Ev.bind (f := fun _ b => some b.2) hd (Ev.now _))
  unfold bits_Rem64.f
  rw [if_neg (by omega)]
  rfl
end Go.Proofs.Ytcbohbeipgcfhaa.Mth
