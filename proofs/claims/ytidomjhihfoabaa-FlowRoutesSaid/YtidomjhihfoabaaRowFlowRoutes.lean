/- The law FlowRoutes holds of the given program: for every input the call returns true and leaves its arguments as they were; the plain part is YtidomjhihfoabaaPureFlowRoutes. -/
import Derived.Test.YtidomjhihfoabaaRows
import Derived.Test.YtidomjhihfoabaaHLawRoutes
import Derived.Test.YtidomjhihfoabaaStFlowRoutes
import Derived.Test.YtidomjhihfoabaaPureFlowRoutes
import Derived.WalkKit
import Derived.ProofKit
import Derived.OpenShut
import Derived.ShutString
import Derived.ChangeOld
import Derived.Below
import Derived.SizedLaws
namespace Go.Proofs.Ytidomjhihfoabaa.PF
open Go Go.RowKit Go.Proofs.YtidomjhihfoabaaW.PrintWords Go.Proofs.YtidomjhihfoabaaW.PrintLast Go.Proofs.Ytidomjhihfoabaa.Op
set_option linter.unusedVariables false
theorem open36 : Opens Try.prog 36 k36 Good36 := opens_iso (fun x : S36 => (x.f0, x.f1, x.f2)) (fun p => ⟨p.1, p.2.1, p.2.2⟩) (fun _ => rfl) (opens_struct Try.underlying36 (by kernel_rfl) (opensF_cons (opens_i64 Try.underlying3) rfl (by kernel_rfl) (opensF_cons (opens_i64 Try.underlying3) rfl (by kernel_rfl) (opensF_one (opens_i64 Try.underlying3) rfl (by kernel_rfl)))))
theorem open22 : Opens Try.prog 22 (Kd.slice 36 k36) (fun x => ((∀ a ∈ x, Good36 a) ∧ x.length * 24 ≤ 140737488351232)) := by
  refine opens_imp (opens_slice 36 Try.underlying22 (by kernel_rfl) open36) (fun x h => ⟨h.1, ?_⟩)
  have e : Try.prog.bytesOf 36 = 24 := by kernel_rfl
  have h2 := h.2
  rw [e] at h2
  exact h2
theorem open33 : Opens Try.prog 33 (Kd.slice 3 (Kd.int .i64)) (fun x => ((∀ a ∈ x, I64 a) ∧ x.length * 8 ≤ 140737488351232)) := by
  refine opens_imp (opens_slice 3 Try.underlying33 (by kernel_rfl) (opens_i64 Try.underlying3)) (fun x h => ⟨h.1, ?_⟩)
  have e : Try.prog.bytesOf 3 = 8 := by kernel_rfl
  have h2 := h.2
  rw [e] at h2
  exact h2
theorem open28 : Opens Try.prog 28 (Kd.slice 4 Kd.bool) (fun x => ((∀ a ∈ x, True) ∧ x.length * 1 ≤ 140737488351232)) := by
  refine opens_imp (opens_slice 4 Try.underlying28 (by kernel_rfl) (opens_bool Try.underlying4)) (fun x h => ⟨h.1, ?_⟩)
  have e : Try.prog.bytesOf 4 = 1 := by kernel_rfl
  have h2 := h.2
  rw [e] at h2
  exact h2
end Go.Proofs.Ytidomjhihfoabaa.PF
namespace Go.Proofs.Ytidomjhihfoabaa.flowRoutes
open Go Go.ChangeShapes Go.WideShapes Go.ChangeAt Go.RowKit Go.Proofs.YtidomjhihfoabaaW.PrintWords Go.Proofs.Ytidomjhihfoabaa.Op Go.Proofs.Ytidomjhihfoabaa.PF
open Go.ChangeMaps (open_string shut_string)
set_option linter.unusedVariables false
theorem own : ownKnob Try.prog.godebug = none := by kernel_rfl
theorem laidOut : laidOutB Try.prog = true := by kernel_rfl
set_option maxRecDepth 100000 in
set_option maxHeartbeats 4000000 in
theorem lifted (os : Os) (started : os.Started) (H : Type) (enc : TypeId × Value → H) :
    ReturnsInHanded {} Try.checked os 11 .any (Rows.flowRoutesSpec.pre6 enc Try.prog Try.f11 Rows.flowRoutesRow.domain false) (Rows.flowRoutesSpec.post enc Try.prog Try.f11 false true false false) := by
  refine returnsInHanded_of_change_sized (C := Try.checked) own started (by kernel_rfl) Try.func11
    (ChangeSpec.witness6 (enc := enc) (C := Try.checked) false ⟨#[], #[.agg #[.int .i64 0, .slice none 0 0, .int .i64 0, .int .i64 0, .int .i64 0, .slice none 0 0, .slice none 0 0, .slice none 0 0, .slice none 0 0]], []⟩ 8 (by kernel_rfl) (by kernel_rfl) (by kernel_rfl) (by kernel_rfl)) ?_
  intro W base args ds gs before hval0 hW hcnd hsz0 _
  have hsz : (DataW.weightsEach Try.prog (Try.f11.params.toList ++ Rows.flowRoutesSpec.plain.varTypes Try.prog) (ds ++ gs)).all (· ≤ reachBytes) = true := hsz0
  have hval : ∀ (j : Nat) t v, Try.f11.params[j]? = some t → args[j]? = some v → Value.okWide Try.prog W .any base t v := hval0
  have hW' := hW
  obtain ⟨p, q, hA0, hV, rfl, hfz, hnd⟩ := hW
  have hA : DataW.TrodAll enc Try.prog W 0 (fun _ => true) true Try.f11.params.toList args.toList ds p := hA0
  rw [Try.params11] at hA hval hsz
  obtain ⟨v0, vs0, d0, ds0, p0, q0, hargs, rfl, rfl, h0, r0⟩ := trodAll_cons hA
  obtain ⟨rfl, rfl, rfl⟩ := trodAll_nil r0
  obtain rfl : args = #[v0] := by cases args; simp_all
  obtain ⟨rfl, rfl⟩ := trodVars_none hV
  have lt0 : ∀ x ∈ p0, x.block < W.heap.size := by obtain ⟨m, hm⟩ := h0; exact DataW.trod_lt m _ _ _ hm
  have bk0 := h0
  obtain ⟨cs0, rfl, sz0⟩ := okWide_struct Try.underlying41 (hval 0 41 v0 rfl rfl)
  obtain ⟨⟨⟨a0_0, l0_1⟩, a0_2, a0_3, ⟨a0_4, l0_5, l0_6⟩, l0_7, l0_8⟩, k0, g0⟩ := opens_at (opens_struct Try.underlying41 (by kernel_rfl) (opensF_cons (opens_struct Try.underlying24 (by kernel_rfl) (opensF_cons (opens_i64 Try.underlying3) rfl (by kernel_rfl) (opensF_one (open22) rfl (by kernel_rfl)))) rfl (by kernel_rfl) (opensF_cons (opens_i64 Try.underlying3) rfl (by kernel_rfl) (opensF_cons (opens_i64 Try.underlying3) rfl (by kernel_rfl) (opensF_cons (opens_struct Try.underlying39 (by kernel_rfl) (opensF_cons (opens_i64 Try.underlying3) rfl (by kernel_rfl) (opensF_cons (open33) rfl (by kernel_rfl) (opensF_one (open28) rfl (by kernel_rfl))))) rfl (by kernel_rfl) (opensF_cons (open33) rfl (by kernel_rfl) (opensF_one (open28) rfl (by kernel_rfl)))))))) h0 hsz (j := 0) (t := 41) rfl rfl
  obtain ⟨⟨g0_0, g0_1⟩, g0_2, g0_3, ⟨g0_4, g0_5, g0_6⟩, g0_7, g0_8⟩ := g0
  obtain ⟨_, _, ec0, ⟨_, _, rfl, rfl, ⟨A0_1, c0_1, rfl, hl0_1, hC0_1⟩⟩, ⟨_, _, rfl, rfl, ⟨_, _, rfl, rfl, ⟨_, _, rfl, ⟨_, _, rfl, rfl, ⟨_, _, rfl, ⟨A0_5, c0_5, rfl, hl0_5, hC0_5⟩, ⟨A0_6, c0_6, rfl, hl0_6, hC0_6⟩⟩⟩, ⟨_, _, rfl, ⟨A0_7, c0_7, rfl, hl0_7, hC0_7⟩, ⟨A0_8, c0_8, rfl, hl0_8, hC0_8⟩⟩⟩⟩⟩⟩ := k0
  obtain rfl : cs0 = #[.int .i64 a0_0, .slice A0_1 l0_1.length c0_1, .int .i64 a0_2, .int .i64 a0_3, .int .i64 a0_4, .slice A0_5 l0_5.length c0_5, .slice A0_6 l0_6.length c0_6, .slice A0_7 l0_7.length c0_7, .slice A0_8 l0_8.length c0_8] := by
    have e : cs0.toList = _ := ec0
    cases cs0
    simp at e
    simp [e]
  clear hA0 hval0 hsz0 hsz
  obtain ⟨k, hk⟩ := FlowRoutes_pure a0_0 l0_1 a0_2 a0_3 a0_4 l0_5 l0_6 l0_7 l0_8 g0_0 g0_1 g0_2 g0_3 g0_4 g0_5 g0_6 g0_7 g0_8
  refine (codewrightlaw51_FlowRoutes.calls k a0_0 A0_1 c0_1 l0_1 a0_2 a0_3 a0_4 A0_5 c0_5 l0_5 A0_6 c0_6 l0_6 A0_7 c0_7 l0_7 A0_8 c0_8 l0_8 true W hC0_1 hl0_1 hC0_5 hl0_5 hC0_6 hl0_6 hC0_7 hl0_7 hC0_8 hl0_8 hk).mono fun e W' ⟨he, bel⟩ => ?_
  subst he
  exact ⟨_, rfl, _, _, _, [], _, [], hW', trodAll_mk1 (shut_bool Try.underlying4 _), (trodAll_cons_mk (Below.trod laidOut (by kernel_rfl) (of_decide_eq_true (by kernel_rfl)) bk0 bel lt0) trodAll_mk0), rfl, bel.frame _, fun h => by cases h⟩
theorem over : Rows.flowRoutesRow.holds Try.pinned (OpenSpec.ofChange Rows.flowRoutesSpec) :=
  OpenClaim.holds_of_wide 11 Try.f11 rfl rfl rfl rfl rfl rfl rfl ⟨rfl, rfl, rfl, rfl, rfl⟩ rfl rfl rfl rfl rfl (by kernel_rfl) Try.func11 (by kernel_rfl)
    (of_decide_eq_true (by kernel_rfl)) (by unfold Func.isWrapper; first | (rw [if_pos (by decide +kernel)]; kernel_rfl) | (rw [if_neg (by decide +kernel)]; exact ⟨rfl, rfl⟩))
    (fun os started H enc _ => lifted os started H enc)
theorem proved : Rows.FlowRoutesSaid := over
#print axioms proved
end Go.Proofs.Ytidomjhihfoabaa.flowRoutes
namespace Go.Proofs.Ytidomjhihfoabaa
/-- The row, under a short name, for the claim. -/
theorem flowRoutes_holds : Rows.FlowRoutesSaid := flowRoutes.proved
end Go.Proofs.Ytidomjhihfoabaa
