/- The plain statement of FlowMaximal. -/
import Derived.Test.YtidomjhihfoabaaLem49
import Derived.Test.YtidomjhihfoabaaHLawMax
import Derived.Test.YtidomjhihfoabaaStFlowMaximal
namespace Go.Proofs.Ytidomjhihfoabaa.PF
open Go.RowKit Go.Proofs.YtidomjhihfoabaaW.PrintWords
theorem Max_ev {n : Nat} {l : List S36} {s t : Nat} (he : endsOf (n : Int) l (s : Int) (t : Int) = 0) : ∃ al sd, Ev (fun k => flow_Max.f k (n : Int) l (s : Int) (t : Int)) (netAt (s : Int) l al, al, sd, 0) ∧ Best n l s t al sd := by
  obtain ⟨al, sd, h1, h2⟩ := greatest_ok he
  refine ⟨al, sd, ?_, h2⟩
  unfold flow_Max.f
  refine Ev.bind (ends_ev _ l _ _) ?_
  rw [he]
  simp only [if_true]
  exact Ev.bind h1 (Ev.same (fun _ => rfl))
theorem Max_no {v : Int} {l : List S36} {s t : Int} (he : endsOf v l s t ≠ 0) : Ev (fun k => flow_Max.f k v l s t) (0, [], [], endsOf v l s t) := by
  unfold flow_Max.f
  refine Ev.bind (ends_ev _ l _ _) ?_
  simp only [if_neg he]
  exact Ev.same (fun _ => rfl)
theorem FlowMaximal_pure : FlowMaximal_Pure := by
  intro v l s t _ _ _ _
  refine Ev.rounds (g := fun k => codewrightlaw51_FlowMaximal.f k v l s t) ?_
  unfold codewrightlaw51_FlowMaximal.f
  obtain ⟨b, hb, _, _⟩ := few_ev v l
  refine Ev.bind hb ?_
  cases b with
  | false => simp only [Bool.false_eq_true, if_false]; exact alive_ev
  | true =>
    simp only [if_true]
    by_cases he : endsOf v l s t = 0
    · obtain ⟨n, rfl⟩ := endsOf_nat he
      obtain ⟨hc, hs0, hs1, ht0, ht1, hst⟩ := endsOf_ok he
      obtain ⟨S, rfl⟩ : ∃ S : Nat, s = (S : Int) := ⟨s.toNat, by omega⟩
      obtain ⟨T, rfl⟩ : ∃ T : Nat, t = (T : Int) := ⟨t.toNat, by omega⟩
      obtain ⟨al, sd, h1, h2⟩ := Max_ev he
      obtain ⟨al', sd', h3, h4⟩ := refmax_ok he
      refine Ev.bind h1 ?_
      refine Ev.bind (ends_ref_ev _ l _ _) ?_
      rw [he]
      simp only [if_true]
      refine Ev.bind (Accept_ev _ _ _ _ _ _ _) ?_
      have e : checkAns (n : Int) l (S : Int) (T : Int) (netAt (S : Int) l al) al sd = 0 := by
        unfold checkAns
        rw [if_pos he, Int.toNat_natCast, B_true (best_cert he h2), if_pos rfl]
      rw [e]
      simp only [if_true]
      refine Ev.bind h3 ?_
      have e2 := best_side he h2 h4
      have e3 := best_same he h2 h4
      have e4 := (best_cut he h2).1
      refine Ev.same (fun _ => ?_)
      rw [if_pos ⟨by omega, e2, by omega, e3⟩]
    · refine Ev.bind (Max_no he) ?_
      refine Ev.bind (ends_ref_ev v l s t) ?_
      simp only [if_true, if_neg he, and_self]
      exact alive_ev
end Go.Proofs.Ytidomjhihfoabaa.PF
