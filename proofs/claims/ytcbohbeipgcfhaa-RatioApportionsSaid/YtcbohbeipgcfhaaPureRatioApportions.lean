/- RatioApportions: for every total and all weights Apportion of the program and of the reference give the same. -/
import Derived.Test.YtcbohbeipgcfhaaGf3
import Derived.Test.YtcbohbeipgcfhaaMathQ
import Derived.Test.YtcbohbeipgcfhaaMathW
namespace Go.Proofs.Ytcbohbeipgcfhaa.Pure
open Go.RowKit Go.Proofs.Ytcbohbeipgcfhaa.G Go.Proofs.Ytcbohbeipgcfhaa.Mth Go.Proofs.Ytcbohbeipgcfhaa.Given Go.Proofs.YtcbohbeipgcfhaaW.PrintWords Go.Proofs.YtcbohbeipgcfhaaW.PrintLast
set_option linter.unusedVariables false
theorem app_len (a0 : Int) (l : List Int) (r : List Int × Int) (h : ratio_Apportion.f a0 l = some r) (hl : l.length ≤ 120) : r.1.length ≤ 1000 := by
  unfold ratio_Apportion.f at h
  split at h
  · cases h; simp
  · split at h
    · split at h
      · cases h; simp
      · cases h
        show (apOut a0 l).length ≤ 1000
        unfold apOut
        rw [incs_len]
        simp [qs]; omega
    · cases h; simp
theorem RatioApportions : awardingbodylaw01_RatioApportions.Pure := by
  intro a0 l _ _ _ _
  have h : Ev (fun k => awardingbodylaw01_RatioApportions.f k a0 l) true := by
    by_cases h120 : l.length > 120
    · exact Ev.congr (fun k => by unfold awardingbodylaw01_RatioApportions.f; rw [if_pos (by omega)]) (Ev.now _)
    · obtain ⟨r, h1, h2⟩ := fapp_ev a0 l
      refine Ev.congr (fun k => by unfold awardingbodylaw01_RatioApportions.f; rw [if_neg (by omega), h1, Option.bind_some]) ?_
      refine Ev.bind h2 ?_
      refine Ev.bind (same_ev r.1 (app_len a0 l r h1 (by omega))) ?_
      refine Ev.congr (fun k => ?_) awake_end
      simp
  obtain ⟨K, hK⟩ := h
  exact ⟨K, hK K (Nat.le_refl _)⟩
end Go.Proofs.Ytcbohbeipgcfhaa.Pure
