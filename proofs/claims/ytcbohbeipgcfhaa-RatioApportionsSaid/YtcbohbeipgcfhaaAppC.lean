/- ratio.Apportion: its contract (for every list). -/
import Derived.Test.YtcbohbeipgcfhaaAppB
namespace Go.Proofs.Ytcbohbeipgcfhaa.Given
open Go.RowKit Go.Lib Go.Proofs.Ytcbohbeipgcfhaa.Short Go.Proofs.YtcbohbeipgcfhaaW.PrintWords Go.Proofs.YtcbohbeipgcfhaaW.PrintLast Go.Proofs.YtcbohbeipgcfhaaW.PrintMore
set_option linter.unusedVariables false
def ratio_Apportion.f (a0 : Int) (l1 : List Int) : Option (List Int × Int) :=
  if 100 < l1.length then some ([], 3) else if (a0 :: l1).all (fun x => !bad x) = true then (if isum l1 = 0 then some ([], 10) else some (apOut a0 l1, 0)) else some ([], 2)
theorem ratio_Apportion.calls (a0 : Int) (A1 : Option Addr) (c1 : Nat) (l1 : List Int) (r1 : List Int) (r2 : Int) (w : World) (hr1 : Kd.C (Kd.int .i64) w A1 l1.length l1) (hc1 : l1.length ≤ c1) (h : ratio_Apportion.f a0 l1 = some (r1, r2)) :
    Calls Try.prog 15 #[.int .i64 a0, .slice A1 l1.length c1] w fun e w' => ∃ v0_ : Value, e = .returned (.tuple #[v0_, .int .i64 r2]) ∧ Kd.R (Kd.int .i64) 3 w' w.heap.size (fun _ => True) v0_ r1 ∧ Below w.heap.size w w' := by
  unfold ratio_Apportion.f at h
  by_cases hl : 100 < l1.length
  · rw [if_pos hl] at h
    simp only [Option.some.injEq, Prod.mk.injEq] at h
    obtain ⟨rfl, rfl⟩ := h
    exact ap_long a0 A1 c1 l1 w hr1 hc1 hl
  rw [if_neg hl] at h
  by_cases hg : (a0 :: l1).all (fun x => !bad x) = true
  · rw [if_pos hg] at h
    have hg2 : ∀ x ∈ a0 :: l1, bad x = false := fun x hx => by simpa using List.all_eq_true.1 hg x hx
    by_cases hS : isum l1 = 0
    · rw [if_pos hS] at h
      simp only [Option.some.injEq, Prod.mk.injEq] at h
      obtain ⟨rfl, rfl⟩ := h
      exact ap_zero a0 A1 c1 l1 w hr1 hc1 (by omega) hg2 hS
    · rw [if_neg hS] at h
      simp only [Option.some.injEq, Prod.mk.injEq] at h
      obtain ⟨rfl, rfl⟩ := h
      have h0 : 0 < l1.length := by
        cases l1 with
        | nil => exact absurd rfl hS
        | cons y t => exact Nat.succ_pos _
      obtain ⟨adw, rfl, hcw⟩ := cells_read hr1 h0
      exact ap_first a0 adw c1 l1 w hr1 hcw hc1 (by omega) (by omega) hg2 hS
  · rw [if_neg hg] at h
    simp only [Option.some.injEq, Prod.mk.injEq] at h
    obtain ⟨rfl, rfl⟩ := h
    refine ap_bad a0 A1 c1 l1 w hr1 hc1 (by omega) ?_
    rw [Bool.not_eq_true, List.all_eq_false] at hg
    obtain ⟨x, hx, hb⟩ := hg
    exact ⟨x, hx, by simpa using hb⟩
end Go.Proofs.Ytcbohbeipgcfhaa.Given
