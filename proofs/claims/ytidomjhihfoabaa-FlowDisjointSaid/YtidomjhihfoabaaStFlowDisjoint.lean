/- The plain statement of the law FlowDisjoint, over numbers and lists alone. -/
import Derived.Test.YtidomjhihfoabaaHLawDisj
import Derived.Test.YtidomjhihfoabaaOpen
namespace Go.Proofs.Ytidomjhihfoabaa.PF
open Go Go.RowKit Go.Proofs.YtidomjhihfoabaaW.PrintWords Go.Proofs.YtidomjhihfoabaaW.PrintLast Go.Proofs.Ytidomjhihfoabaa.Op
set_option linter.unusedVariables false

def Good36 (x : S36) : Prop := I64 x.f0 ∧ I64 x.f1 ∧ I64 x.f2
def FlowDisjoint_Pure : Prop := ∀ (a0_0 : Int) (l0_1 : List S36) (a0_2 : Int) (a0_3 : Int), I64 a0_0 → ((∀ a ∈ l0_1, Good36 a) ∧ l0_1.length * 24 ≤ 140737488351232) → I64 a0_2 → I64 a0_3 → ∃ k, codewrightlaw51_FlowDisjoint.f k a0_0 l0_1 a0_2 a0_3 = some true
end Go.Proofs.Ytidomjhihfoabaa.PF
