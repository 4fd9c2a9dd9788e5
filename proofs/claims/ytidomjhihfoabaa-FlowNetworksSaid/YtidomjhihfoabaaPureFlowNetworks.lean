/- The plain statement of FlowNetworks: the program's first error of a network is the reference's. -/
import Derived.Test.YtidomjhihfoabaaLem1
import Derived.Test.YtidomjhihfoabaaStFlowNetworks
namespace Go.Proofs.Ytidomjhihfoabaa.PF
open Go.RowKit Go.Proofs.YtidomjhihfoabaaW.PrintWords
theorem FlowNetworks_pure : FlowNetworks_Pure := by
  intro v l _ _
  refine Ev.rounds (g := fun k => codewrightlaw51_FlowNetworks.f k v l) ?_
  unfold codewrightlaw51_FlowNetworks.f
  refine Ev.bind (check_ev v l) (Ev.bind (check_ref_ev v l) ?_)
  simp only [if_true]
  refine Ev.bind (check_ev 0 []) ?_
  exact Ev.same (fun _ => by decide)
end Go.Proofs.Ytidomjhihfoabaa.PF
