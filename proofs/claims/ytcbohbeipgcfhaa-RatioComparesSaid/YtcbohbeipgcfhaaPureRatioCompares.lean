/- RatioCompares: for all numbers Compare and Less of the program and of the reference give the same. -/
import Derived.Test.YtcbohbeipgcfhaaGf8
import Derived.Test.YtcbohbeipgcfhaaMathE
import Derived.Test.YtcbohbeipgcfhaaMathW
namespace Go.Proofs.Ytcbohbeipgcfhaa.Pure
open Go.RowKit Go.Proofs.Ytcbohbeipgcfhaa.G Go.Proofs.Ytcbohbeipgcfhaa.Mth Go.Proofs.YtcbohbeipgcfhaaW.PrintWords Go.Proofs.YtcbohbeipgcfhaaW.PrintLast
theorem RatioCompares : awardingbodylaw01_RatioCompares.Pure := by
  intro a b c d _ _ _ _
  have h : Ev (fun k => awardingbodylaw01_RatioCompares.f k a b c d) true := by
    refine Ev.congr (fun k => by unfold awardingbodylaw01_RatioCompares.f; rfl) ?_
    refine Ev.bind (rcompare_ev a b c d) ?_
    refine Ev.bind (fcompare_ev a b c d) ?_
    refine Ev.congr (fun k => by rw [if_pos rfl]) ?_
    refine Ev.bind (Ev.congr (fun k => by unfold ratio_Less.f; rfl) (Ev.bind (f := fun _ t => some (t == (-1))) (rcompare_ev a b c d) (Ev.now _))) ?_
    refine Ev.bind (Ev.congr (fun k => by unfold awardingbodyref01_Less.f; rfl) (Ev.bind (f := fun _ t => some (decide (t < 0))) (fcompare_ev a b c d) (Ev.now _))) ?_
    refine Ev.congr (fun k => ?_) awake_end
    rw [if_pos (by rcases cmpR_cases a b c d with h | h | h <;> rw [h] <;> rfl)]
  obtain ⟨K, hK⟩ := h
  exact ⟨K, hK K (Nat.le_refl _)⟩
end Go.Proofs.Ytcbohbeipgcfhaa.Pure
