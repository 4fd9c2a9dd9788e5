/- The plain statement of the law FlowRoutes, over numbers and lists alone. -/
import Derived.Test.YtidomjhihfoabaaHLawRoutes
import Derived.Test.YtidomjhihfoabaaOpen
namespace Go.Proofs.Ytidomjhihfoabaa.PF
open Go Go.RowKit Go.Proofs.YtidomjhihfoabaaW.PrintWords Go.Proofs.YtidomjhihfoabaaW.PrintLast Go.Proofs.Ytidomjhihfoabaa.Op
set_option linter.unusedVariables false

def Good36 (x : S36) : Prop := I64 x.f0 ∧ I64 x.f1 ∧ I64 x.f2
def FlowRoutes_Pure : Prop := ∀ (a0_0 : Int) (l0_1 : List S36) (a0_2 : Int) (a0_3 : Int) (a0_4 : Int) (l0_5 : List Int) (l0_6 : List Bool) (l0_7 : List Int) (l0_8 : List Bool), I64 a0_0 → ((∀ a ∈ l0_1, Good36 a) ∧ l0_1.length * 24 ≤ 140737488351232) → I64 a0_2 → I64 a0_3 → I64 a0_4 → ((∀ a ∈ l0_5, I64 a) ∧ l0_5.length * 8 ≤ 140737488351232) → ((∀ a ∈ l0_6, True) ∧ l0_6.length * 1 ≤ 140737488351232) → ((∀ a ∈ l0_7, I64 a) ∧ l0_7.length * 8 ≤ 140737488351232) → ((∀ a ∈ l0_8, True) ∧ l0_8.length * 1 ≤ 140737488351232) → ∃ k, codewrightlaw51_FlowRoutes.f k a0_0 l0_1 a0_2 a0_3 a0_4 l0_5 l0_6 l0_7 l0_8 = some true
end Go.Proofs.Ytidomjhihfoabaa.PF
