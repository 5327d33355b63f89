/- RatioValid: for all numbers the program's Valid and the reference's give the same. -/
import Derived.Test.YtcbohbeipgcfhaaGf6
import Derived.Test.YtcbohbeipgcfhaaMathW
namespace Go.Proofs.Ytcbohbeipgcfhaa.Pure
open Go.RowKit Go.Proofs.Ytcbohbeipgcfhaa.G Go.Proofs.Ytcbohbeipgcfhaa.Mth Go.Proofs.YtcbohbeipgcfhaaW.PrintWords Go.Proofs.YtcbohbeipgcfhaaW.PrintLast
theorem RatioValid : awardingbodylaw01_RatioValid.Pure := by
  intro a b ha hb
  have h : Ev (fun k => awardingbodylaw01_RatioValid.f k a b) true := by
    refine Ev.congr (fun k => by unfold awardingbodylaw01_RatioValid.f; rfl) ?_
    refine Ev.bind (rvalid_ev a b) ?_
    refine Ev.bind (fvalid_ev a b) ?_
    refine Ev.congr (fun k => ?_) awake_end
    simp
  obtain ⟨K, hK⟩ := h
  exact ⟨K, hK K (Nat.le_refl _)⟩
end Go.Proofs.Ytcbohbeipgcfhaa.Pure
