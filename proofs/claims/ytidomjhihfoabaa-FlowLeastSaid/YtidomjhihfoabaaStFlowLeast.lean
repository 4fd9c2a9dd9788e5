/- The plain statement of the law FlowLeast, over numbers and lists alone. -/
import Derived.Test.YtidomjhihfoabaaPFx12
import Derived.Test.YtidomjhihfoabaaOpen
namespace Go.Proofs.Ytidomjhihfoabaa.PF
open Go Go.RowKit Go.Proofs.YtidomjhihfoabaaW.PrintWords Go.Proofs.YtidomjhihfoabaaW.PrintLast Go.Proofs.Ytidomjhihfoabaa.Op
set_option linter.unusedVariables false

def Good36 (x : S36) : Prop := I64 x.f0 ∧ I64 x.f1 ∧ I64 x.f2
def FlowLeast_Pure : Prop := ∀ (a0_0 : Int) (l0_1 : List S36) (a0_2 : Int) (a0_3 : Int) (a0_4 : Int) (l0_5 : List Int), I64 a0_0 → ((∀ a ∈ l0_1, Good36 a) ∧ l0_1.length * 24 ≤ 140737488351232) → I64 a0_2 → I64 a0_3 → I64 a0_4 → ((∀ a ∈ l0_5, I64 a) ∧ l0_5.length * 8 ≤ 140737488351232) → ∃ k, codewrightlaw51_FlowLeast.f k a0_0 l0_1 a0_2 a0_3 a0_4 l0_5 = some true
end Go.Proofs.Ytidomjhihfoabaa.PF
