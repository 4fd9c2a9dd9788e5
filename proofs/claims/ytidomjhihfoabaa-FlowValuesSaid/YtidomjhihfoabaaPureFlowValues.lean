/- The plain statement of FlowValues: Value is what flows out of a vertex less what flows into it. -/
import Derived.Test.YtidomjhihfoabaaLem3
import Derived.Test.YtidomjhihfoabaaStFlowValues
namespace Go.Proofs.Ytidomjhihfoabaa.PF
open Go.RowKit Go.Proofs.YtidomjhihfoabaaW.PrintWords
theorem val_alive : valAns 2 [⟨0, 1, 7⟩] [3] 1 = (-3, 0) := by
  unfold valAns
  rw [if_pos (by decide), if_pos (by decide), B_true, if_pos rfl, if_neg (by decide)]
  · decide
  · intro j hj
    have : j = 0 := by simp at hj; omega
    subst this
    decide
theorem FlowValues_pure : FlowValues_Pure := by
  intro v l al u _ _ _ _
  refine Ev.rounds (g := fun k => codewrightlaw51_FlowValues.f k v l al u) ?_
  unfold codewrightlaw51_FlowValues.f
  refine Ev.bind (Value_ev v l al u) (Ev.bind (val_ref_ev v l al u) ?_)
  simp only [if_true]
  refine Ev.bind (Value_ev _ _ _ _) ?_
  rw [val_alive]
  exact Ev.same (fun _ => rfl)
end Go.Proofs.Ytidomjhihfoabaa.PF
