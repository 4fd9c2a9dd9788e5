/- The plain statement of FlowSound: no flow has a greater value than a flow that Check accepts, and no cut a smaller capacity. -/
import Derived.Test.YtidomjhihfoabaaLem3
import Derived.Test.YtidomjhihfoabaaStFlowSound
namespace Go.Proofs.Ytidomjhihfoabaa.PF
open Go.RowKit Go.Proofs.YtidomjhihfoabaaW.PrintWords
theorem sound_j0 {n : Nat} {l : List S36} {s t : Int} (c : endsOf (n : Int) l s t = 0) (val : Int) (al1 : List Int) (side1 : List Bool) (hc : isCert n l s t val al1 side1) (al : List Int) (side : List Bool) :
    Ev (fun k => codewrightlaw51_FlowSound.j0 k (n : Int) l s t val al1 side1 al side) true := by
  obtain ⟨h, hs0, hs1, ht0, ht1, hst⟩ := endsOf_ok c
  refine Ev.step (fun _ => codewrightlaw51_FlowSound.j0.eq_2 ..) ?_
  simp only [isCut_eq l side hs0 hs1 ht0 ht1, Option.bind_some]
  by_cases c2 : isCut n s t side
  · simp only [B_true c2, if_true]
    refine Ev.bind (Cut_ev _ _ _) ?_
    have e2 : cutAns (n : Int) l side = (cut side l, 0) := by
      unfold cutAns
      rw [if_pos h, if_pos (by have := c2.1; omega)]
    rw [e2]
    have e3 := duality c hc.1 c2
    have e4 := hc.2.2.1
    refine Ev.same (fun k => ?_)
    simp only [if_true]
    rw [if_neg (by omega)]
  · simp only [B_false c2, Bool.false_eq_true, if_false]
    exact Ev.same (fun _ => rfl)
theorem FlowSound_pure : FlowSound_Pure := by
  intro v l s t val al1 side1 al side _ _ _ _ _ _ _ _ _
  refine Ev.rounds (g := fun k => codewrightlaw51_FlowSound.f k v l s t val al1 side1 al side) ?_
  unfold codewrightlaw51_FlowSound.f
  refine Ev.bind alive_ev ?_
  simp only [if_true]
  refine Ev.bind (Check_ev v l s t val al1 side1) ?_
  by_cases c0 : checkAns v l s t val al1 side1 = 0
  · simp only [if_pos c0]
    have c : endsOf v l s t = 0 := by
      unfold checkAns at c0
      split at c0
      · assumption
      · exact c0
    refine Ev.bind (ends_ref_ev v l s t) ?_
    simp only [if_pos c]
    obtain ⟨n, rfl⟩ := endsOf_nat c
    obtain ⟨h, hs0, hs1, ht0, ht1, hst⟩ := endsOf_ok c
    have hc : isCert n l s t val al1 side1 := by
      unfold checkAns at c0
      rw [if_pos c, Int.toNat_natCast] at c0
      by_cases q : isCert n l s t val al1 side1
      · exact q
      · rw [B_false q, if_neg (by decide)] at c0; simp at c0
    refine Ev.bind (isFlow_ev h s t al) ?_
    by_cases c1 : isFlow n l s t al
    · simp only [B_true c1, if_true]
      refine Ev.bind (Value_ev _ _ _ _) ?_
      rw [valAns_ok h c1 hs0 hs1]
      have e3 := duality c c1 hc.2.1
      have e4 := hc.2.2.2
      simp only [if_true, if_neg (show ¬ netAt s l al > val by omega)]
      exact sound_j0 c val al1 side1 hc al side
    · simp only [B_false c1, Bool.false_eq_true, if_false]
      exact sound_j0 c val al1 side1 hc al side
  · simp only [if_neg c0]
    exact Ev.same (fun _ => rfl)
end Go.Proofs.Ytidomjhihfoabaa.PF
