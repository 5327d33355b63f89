/- The examples of the chapter: what every law asks beside its own matter. -/
import Derived.Test.YtcbohbeipgcfhaaAppC
import Derived.Test.YtcbohbeipgcfhaaMathD
import Derived.Test.YtcbohbeipgcfhaaGf18
namespace Go.Proofs.Ytcbohbeipgcfhaa.Mth
open Go.RowKit Go.Proofs.Ytcbohbeipgcfhaa.G Go.Proofs.Ytcbohbeipgcfhaa.Given Go.Proofs.YtcbohbeipgcfhaaW.PrintWords Go.Proofs.YtcbohbeipgcfhaaW.PrintLast Go.Proofs.YtcbohbeipgcfhaaW.PrintMore
theorem app_ex : ratio_Apportion.f 3 [5, 3, 0] = some ([2, 1, 0], 0) := by decide +kernel
theorem awake_ev : Ev (fun k => awardingbodylaw01_awake.f k) true := by
  have h := rnew_ev (a := 6) (b := -4) (by unfold I64; omega) (by unfold I64; omega)
  rw [show newR 6 (-4) = (-3, 2, 0) from by decide +kernel] at h
  refine Ev.congr (fun k => by unfold awardingbodylaw01_awake.f; rfl) ?_
  refine Ev.bind h ?_
  refine ev_some (fun k => ?_)
  rw [app_ex]
  decide
/-- a law's last step: the chapter's examples -/
theorem awake_end : Ev (fun k => (awardingbodylaw01_awake.f k).bind fun t => some t) true := Ev.bind (f := fun _ t => some t) awake_ev (Ev.now _)
end Go.Proofs.Ytcbohbeipgcfhaa.Mth
