/- RatioMakes: for all numbers the program's New and the reference's give the same. -/
import Derived.Test.YtcbohbeipgcfhaaGf5
import Derived.Test.YtcbohbeipgcfhaaMathW
namespace Go.Proofs.Ytcbohbeipgcfhaa.Pure
open Go.RowKit Go.Proofs.Ytcbohbeipgcfhaa.G Go.Proofs.Ytcbohbeipgcfhaa.Mth Go.Proofs.YtcbohbeipgcfhaaW.PrintWords Go.Proofs.YtcbohbeipgcfhaaW.PrintLast
theorem RatioMakes : awardingbodylaw01_RatioMakes.Pure := by
  intro a b ha hb
  have h : Ev (fun k => awardingbodylaw01_RatioMakes.f k a b) true := by
    refine Ev.congr (fun k => by unfold awardingbodylaw01_RatioMakes.f; rfl) ?_
    refine Ev.bind (rnew_ev (I64.of ha) (I64.of hb)) ?_
    refine Ev.bind (fnew_ev (I64.of ha) (I64.of hb)) ?_
    refine Ev.congr (fun k => ?_) awake_end
    simp
  obtain ⟨K, hK⟩ := h
  exact ⟨K, hK K (Nat.le_refl _)⟩
end Go.Proofs.Ytcbohbeipgcfhaa.Pure
