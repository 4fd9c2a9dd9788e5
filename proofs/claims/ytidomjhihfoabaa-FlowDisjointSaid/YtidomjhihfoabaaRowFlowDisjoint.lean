/- The law FlowDisjoint holds of the given program: for every input the call returns true and leaves its arguments as they were; the plain part is YtidomjhihfoabaaPureFlowDisjoint. -/
import Derived.Test.YtidomjhihfoabaaRows
import Derived.Test.YtidomjhihfoabaaHLawDisj
import Derived.Test.YtidomjhihfoabaaStFlowDisjoint
import Derived.Test.YtidomjhihfoabaaPureFlowDisjoint
import Derived.WalkKit
import Derived.ProofKit
import Derived.OpenShut
import Derived.ShutString
import Derived.ChangeOld
import Derived.Below
import Derived.SizedLaws
namespace Go.Proofs.Ytidomjhihfoabaa.PF
open Go Go.RowKit Go.Proofs.YtidomjhihfoabaaW.PrintWords Go.Proofs.YtidomjhihfoabaaW.PrintLast Go.Proofs.Ytidomjhihfoabaa.Op
set_option linter.unusedVariables false
theorem open36 : Opens Try.prog 36 k36 Good36 := opens_iso (fun x : S36 => (x.f0, x.f1, x.f2)) (fun p => ⟨p.1, p.2.1, p.2.2⟩) (fun _ => rfl) (opens_struct Try.underlying36 (by kernel_rfl) (opensF_cons (opens_i64 Try.underlying3) rfl (by kernel_rfl) (opensF_cons (opens_i64 Try.underlying3) rfl (by kernel_rfl) (opensF_one (opens_i64 Try.underlying3) rfl (by kernel_rfl)))))
theorem open22 : Opens Try.prog 22 (Kd.slice 36 k36) (fun x => ((∀ a ∈ x, Good36 a) ∧ x.length * 24 ≤ 140737488351232)) := by
  refine opens_imp (opens_slice 36 Try.underlying22 (by kernel_rfl) open36) (fun x h => ⟨h.1, ?_⟩)
  have e : Try.prog.bytesOf 36 = 24 := by kernel_rfl
  have h2 := h.2
  rw [e] at h2
  exact h2
end Go.Proofs.Ytidomjhihfoabaa.PF
namespace Go.Proofs.Ytidomjhihfoabaa.flowDisjoint
open Go Go.ChangeShapes Go.WideShapes Go.ChangeAt Go.RowKit Go.Proofs.YtidomjhihfoabaaW.PrintWords Go.Proofs.Ytidomjhihfoabaa.Op Go.Proofs.Ytidomjhihfoabaa.PF
open Go.ChangeMaps (open_string shut_string)
set_option linter.unusedVariables false
theorem own : ownKnob Try.prog.godebug = none := by kernel_rfl
theorem laidOut : laidOutB Try.prog = true := by kernel_rfl
set_option maxRecDepth 100000 in
set_option maxHeartbeats 4000000 in
theorem lifted (os : Os) (started : os.Started) (H : Type) (enc : TypeId × Value → H) :
    ReturnsInHanded {} Try.checked os 13 .any (Rows.flowDisjointSpec.pre6 enc Try.prog Try.f13 Rows.flowDisjointRow.domain false) (Rows.flowDisjointSpec.post enc Try.prog Try.f13 false true false false) := by
  refine returnsInHanded_of_change_sized (C := Try.checked) own started (by kernel_rfl) Try.func13
    (ChangeSpec.witness6 (enc := enc) (C := Try.checked) false ⟨#[], #[.agg #[.int .i64 0, .slice none 0 0, .int .i64 0, .int .i64 0]], []⟩ 8 (by kernel_rfl) (by kernel_rfl) (by kernel_rfl) (by kernel_rfl)) ?_
  intro W base args ds gs before hval0 hW hcnd hsz0 _
  have hsz : (DataW.weightsEach Try.prog (Try.f13.params.toList ++ Rows.flowDisjointSpec.plain.varTypes Try.prog) (ds ++ gs)).all (· ≤ reachBytes) = true := hsz0
  have hval : ∀ (j : Nat) t v, Try.f13.params[j]? = some t → args[j]? = some v → Value.okWide Try.prog W .any base t v := hval0
  have hW' := hW
  obtain ⟨p, q, hA0, hV, rfl, hfz, hnd⟩ := hW
  have hA : DataW.TrodAll enc Try.prog W 0 (fun _ => true) true Try.f13.params.toList args.toList ds p := hA0
  rw [Try.params13] at hA hval hsz
  obtain ⟨v0, vs0, d0, ds0, p0, q0, hargs, rfl, rfl, h0, r0⟩ := trodAll_cons hA
  obtain ⟨rfl, rfl, rfl⟩ := trodAll_nil r0
  obtain rfl : args = #[v0] := by cases args; simp_all
  obtain ⟨rfl, rfl⟩ := trodVars_none hV
  have lt0 : ∀ x ∈ p0, x.block < W.heap.size := by obtain ⟨m, hm⟩ := h0; exact DataW.trod_lt m _ _ _ hm
  have bk0 := h0
  obtain ⟨cs0, rfl, sz0⟩ := okWide_struct Try.underlying48 (hval 0 48 v0 rfl rfl)
  obtain ⟨⟨⟨a0_0, l0_1⟩, a0_2, a0_3⟩, k0, g0⟩ := opens_at (opens_struct Try.underlying48 (by kernel_rfl) (opensF_cons (opens_struct Try.underlying24 (by kernel_rfl) (opensF_cons (opens_i64 Try.underlying3) rfl (by kernel_rfl) (opensF_one (open22) rfl (by kernel_rfl)))) rfl (by kernel_rfl) (opensF_cons (opens_i64 Try.underlying3) rfl (by kernel_rfl) (opensF_one (opens_i64 Try.underlying3) rfl (by kernel_rfl))))) h0 hsz (j := 0) (t := 48) rfl rfl
  obtain ⟨⟨g0_0, g0_1⟩, g0_2, g0_3⟩ := g0
  obtain ⟨_, _, ec0, ⟨_, _, rfl, rfl, ⟨A0_1, c0_1, rfl, hl0_1, hC0_1⟩⟩, ⟨_, _, rfl, rfl, rfl⟩⟩ := k0
  obtain rfl : cs0 = #[.int .i64 a0_0, .slice A0_1 l0_1.length c0_1, .int .i64 a0_2, .int .i64 a0_3] := by
    have e : cs0.toList = _ := ec0
    cases cs0
    simp at e
    simp [e]
  clear hA0 hval0 hsz0 hsz
  obtain ⟨k, hk⟩ := FlowDisjoint_pure a0_0 l0_1 a0_2 a0_3 g0_0 g0_1 g0_2 g0_3
  refine (codewrightlaw51_FlowDisjoint.calls k a0_0 A0_1 c0_1 l0_1 a0_2 a0_3 true W hC0_1 hl0_1 hk).mono fun e W' ⟨he, bel⟩ => ?_
  subst he
  exact ⟨_, rfl, _, _, _, [], _, [], hW', trodAll_mk1 (shut_bool Try.underlying4 _), (trodAll_cons_mk (Below.trod laidOut (by kernel_rfl) (of_decide_eq_true (by kernel_rfl)) bk0 bel lt0) trodAll_mk0), rfl, bel.frame _, fun h => by cases h⟩
theorem over : Rows.flowDisjointRow.holds Try.pinned (OpenSpec.ofChange Rows.flowDisjointSpec) :=
  OpenClaim.holds_of_wide 13 Try.f13 rfl rfl rfl rfl rfl rfl rfl ⟨rfl, rfl, rfl, rfl, rfl⟩ rfl rfl rfl rfl rfl (by kernel_rfl) Try.func13 (by kernel_rfl)
    (of_decide_eq_true (by kernel_rfl)) (by unfold Func.isWrapper; first | (rw [if_pos (by decide +kernel)]; kernel_rfl) | (rw [if_neg (by decide +kernel)]; exact ⟨rfl, rfl⟩))
    (fun os started H enc _ => lifted os started H enc)
theorem proved : Rows.FlowDisjointSaid := over
#print axioms proved
end Go.Proofs.Ytidomjhihfoabaa.flowDisjoint
namespace Go.Proofs.Ytidomjhihfoabaa
/-- The row, under a short name, for the claim. -/
theorem flowDisjoint_holds : Rows.FlowDisjointSaid := flowDisjoint.proved
end Go.Proofs.Ytidomjhihfoabaa
