/- The plain statement of FlowCuts: Cut adds up the capacities of the arcs that leave a set, as the reference does. -/
import Derived.Test.YtidomjhihfoabaaLem1
import Derived.Test.YtidomjhihfoabaaStFlowCuts
namespace Go.Proofs.Ytidomjhihfoabaa.PF
open Go.RowKit Go.Proofs.YtidomjhihfoabaaW.PrintWords
theorem FlowCuts_pure : FlowCuts_Pure := by
  intro v l side _ _ _
  refine Ev.rounds (g := fun k => codewrightlaw51_FlowCuts.f k v l side) ?_
  unfold codewrightlaw51_FlowCuts.f
  refine Ev.bind (Cut_ev v l side) (Ev.bind (Cut_ref_ev v l side) ?_)
  simp only [if_true]
  exact Ev.bind alive_ev (Ev.same (fun _ => rfl))
end Go.Proofs.Ytidomjhihfoabaa.PF
