/- The plain statement of FlowDuality: the value of every flow is at most the capacity of every cut. -/
import Derived.Test.YtidomjhihfoabaaLem3
import Derived.Test.YtidomjhihfoabaaStFlowDuality
namespace Go.Proofs.Ytidomjhihfoabaa.PF
open Go.RowKit Go.Proofs.YtidomjhihfoabaaW.PrintWords
theorem dual_true (v : Int) (l : List S36) (s t val : Int) (al1 : List Int) (side1 : List Bool) (al : List Int) (side : List Bool) : Ev (fun k => codewrightlaw51_FlowDuality.j0 k true v l s t val al1 side1 al side) true := by
  refine Ev.step (fun _ => codewrightlaw51_FlowDuality.j0.eq_2 ..) ?_
  simp only [if_true]
  exact Ev.same (fun _ => rfl)
theorem FlowDuality_pure : FlowDuality_Pure := by
  intro v l s t val al1 side1 al side _ _ _ _ _ _ _ _ _
  refine Ev.rounds (g := fun k => codewrightlaw51_FlowDuality.f k v l s t val al1 side1 al side) ?_
  unfold codewrightlaw51_FlowDuality.f
  refine Ev.bind alive_ev ?_
  simp only [if_true]
  refine Ev.bind (ends_ref_ev v l s t) ?_
  by_cases c : endsOf v l s t = 0
  · simp only [if_pos c]
    obtain ⟨n, rfl⟩ := endsOf_nat c
    obtain ⟨h, hs0, hs1, ht0, ht1, hst⟩ := endsOf_ok c
    refine Ev.bind (isFlow_ev h s t al) ?_
    by_cases c1 : isFlow n l s t al
    · simp only [B_true c1, if_true, isCut_eq l side hs0 hs1 ht0 ht1, Option.bind_some]
      by_cases c2 : isCut n s t side
      · simp only [B_true c2, Bool.not_true]
        refine Ev.step (fun _ => codewrightlaw51_FlowDuality.j0.eq_2 ..) ?_
        simp only [Bool.false_eq_true, if_false]
        refine Ev.bind (Value_ev _ _ _ _) (Ev.bind (Value_ev _ _ _ _) (Ev.bind (Cut_ev _ _ _) ?_))
        rw [valAns_ok h c1 hs0 hs1, valAns_ok h c1 ht0 ht1]
        have e2 : cutAns (n : Int) l side = (cut side l, 0) := by
          unfold cutAns
          rw [if_pos h, if_pos (by have := c2.1; omega)]
        rw [e2]
        have e3 := duality c c1 c2
        have e4 := flow_ends_eq c c1
        have e5 := netAt_bound h c1 t
        refine Ev.same (fun k => ?_)
        simp only [if_true, if_pos e3]
        rw [wr0 (by omega) (by omega), e4]
        simp
      · simp only [B_false c2, Bool.not_false]
        exact dual_true ..
    · simp only [B_false c1, Bool.false_eq_true, if_false]
      exact dual_true ..
  · simp only [if_neg c]
    exact dual_true ..
end Go.Proofs.Ytidomjhihfoabaa.PF
