/- The plain statement of FlowAccepts: Check accepts just the certified flows. -/
import Derived.Test.YtidomjhihfoabaaLem2
import Derived.Test.YtidomjhihfoabaaStFlowAccepts
namespace Go.Proofs.Ytidomjhihfoabaa.PF
open Go.RowKit Go.Proofs.YtidomjhihfoabaaW.PrintWords
theorem FlowAccepts_pure : FlowAccepts_Pure := by
  intro v l s t val al side al2 side2 _ _ _ _ _ _ _ _ _
  refine Ev.rounds (g := fun k => codewrightlaw51_FlowAccepts.f k v l s t val al side al2 side2) ?_
  unfold codewrightlaw51_FlowAccepts.f
  refine Ev.bind (Check_ev v l s t val al side) (Ev.bind (Accept_ev v l s t val al side) ?_)
  simp only [if_true]
  refine Ev.bind (check_ev 0 []) ?_
  exact Ev.same (fun _ => by decide)
end Go.Proofs.Ytidomjhihfoabaa.PF
