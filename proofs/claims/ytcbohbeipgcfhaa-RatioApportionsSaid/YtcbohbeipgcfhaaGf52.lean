-- Printed by gp.py (a program of this session's own, over the kit's printer) out of the translation; Lean checks it.
import Derived.Test.YtcbohbeipgcfhaaG0
namespace Go.Proofs.Ytcbohbeipgcfhaa.G
open Go.Proofs.Ytcbohbeipgcfhaa.Given Go.Proofs.Ytcbohbeipgcfhaa.Short
open Go.RowKit Go.Proofs.YtcbohbeipgcfhaaW.PrintWords Go.Proofs.YtcbohbeipgcfhaaW.PrintLast Go.Proofs.YtcbohbeipgcfhaaW.PrintMore
attribute [local go_sem] max2_int min2_int max_two min_two max_three min_three max_four min_four   -- for this text's walks alone
set_option linter.unusedVariables false
set_option linter.unusedSimpArgs false

/-! ### ratio_gcd: function 52 -/
def ratio_gcd.l0 : Nat → Int → Int → Option (Int)
  | 0, _, _ => none
  | k + 1, x0, x1 => if x1 = 0 then (some x0) else (ratio_gcd.l0 k x1 (Int.tmod x0 x1))
def ratio_gcd.f (k : Nat) (a0 : Int) (a1 : Int) : Option (Int) := ratio_gcd.l0 k a0 a1
theorem ratio_gcd.mono_l : ∀ k, (∀ y0 y1, LeO (ratio_gcd.l0 k y0 y1) (ratio_gcd.l0 (k + 1) y0 y1))
  | 0 => fun _ _ r h => by simp [ratio_gcd.l0] at h
  | k + 1 => by
    have ih0 := ratio_gcd.mono_l k
    · intro y0 y1
      unfold ratio_gcd.l0
      repeat' first
      | (with_reducible exact ih0 _ _)
      | (with_reducible exact LeO.refl _)
      | (with_reducible exact LeO.none _)
      | (with_reducible refine LeO.ite ?_ ?_)
      | (with_reducible refine LeO.bind ?_ (fun _ => ?_))
      | exact ih0 _ _
      | exact LeO.none _
      | refine LeO.ite ?_ ?_
      | refine LeO.bind ?_ (fun _ => ?_)
theorem ratio_gcd.mono : ∀ a0 a1 k, LeO (ratio_gcd.f k a0 a1) (ratio_gcd.f (k + 1) a0 a1) := by
  intro a0 a1 k
  have ih0 := ratio_gcd.mono_l k
  unfold ratio_gcd.f
  repeat' first
      | (with_reducible exact ih0 _ _)
      | (with_reducible exact LeO.refl _)
      | (with_reducible exact LeO.none _)
      | (with_reducible refine LeO.ite ?_ ?_)
      | (with_reducible refine LeO.bind ?_ (fun _ => ?_))
      | exact ih0 _ _
      | exact LeO.none _
      | refine LeO.ite ?_ ?_
      | refine LeO.bind ?_ (fun _ => ?_)
set_option maxHeartbeats 8000000 in
set_option maxRecDepth 100000 in
theorem ratio_gcd.calls (k : Nat) (a0 : Int) (a1 : Int) (r : Int) (w : World) (h : ratio_gcd.f k a0 a1 = some r) :
    Calls Try.prog 52 #[.int .u64 a0, .int .u64 a1] w fun e w' => e = .returned (.int .u64 r) ∧ Drawn0 w w' := by
  have H : (ratio_gcd.l0 k a0 a1) = some r := h
  clear h
  have H' := Aside0.mk H
  clear H
  go_enter Try.func52, Try.ntmps52
  go_wp2
  repeat (go_quiet (fail); try go_wp2)
  (try simp only [Act.put, List.setIfInBounds_toArray, List.set_cons_zero, List.set_cons_succ])
  go_loopg [0, 1] k (fun kq v0 v1 w' => ∃ (x0_1 : Int) (x1_1 : Int), v0 = .int .u64 x0_1 ∧ v1 = .int .u64 x1_1 ∧ Aside0 (ratio_gcd.l0 kq x0_1 x1_1 = some r) ∧ Aside0 (kq ≤ k) ∧ Drawn0 w w')
  case atStart => exact ⟨(a0), (a1), (by first | rfl | (simp; done) | (simp [*]; done)), (by first | rfl | (simp; done) | (simp [*]; done)), H', ⟨Nat.le_refl _⟩, by repeat (first | exact Drawn0.refl _ | apply Drawn0.step)⟩
  case round =>
    clear H'
    try clear p2
    obtain ⟨x0_1, x1_1, rfl, rfl, HA, HK1, ⟨m1, rfl⟩⟩ := hrel
    cases gk with
    | zero => exact absurd HA.out (by simp [ratio_gcd.l0])
    | succ k1 =>
      have H := HA.out
      clear HA
      simp only [ratio_gcd.l0] at H
      by_cases c3 : x1_1 = 0
      · rw [if_pos c3] at H
        have c3b0 : (x1_1 == 0) = true := beq_iff_eq.mpr c3
        have c3b1 : (x1_1 != 0) = false := bne_eq_false_iff_eq.mpr c3
        clear c3
        obtain rfl := Option.some.inj H
        go_wp2
        repeat (go_quiet (fail); try go_wp2)
        go_ret
        exact ⟨by first | rfl | (simp; done) | (simp [*]; done), by repeat (first | exact Drawn0.refl _ | apply Drawn0.step)⟩
      · rw [if_neg c3] at H
        have c3b0 : (x1_1 == 0) = false := beq_eq_false_iff_ne.mpr c3
        have c3b1 : (x1_1 != 0) = true := bne_iff_ne.mpr c3
        have H' := Aside0.mk H
        clear H
        go_wp2
        repeat (go_quiet (fail); try go_wp2)
        go_roundg k1
        case measure => have := HK1.out; omega
        case rel => exact ⟨(x1_1), (Int.tmod x0_1 x1_1), (by first | rfl | (simp; done) | (simp [*]; done)), (by first | rfl | (simp; done) | (simp [*]; done)), H', ⟨by have := HK1.out; omega⟩, by repeat (first | exact Drawn0.refl _ | apply Drawn0.step)⟩

end Go.Proofs.Ytcbohbeipgcfhaa.G
