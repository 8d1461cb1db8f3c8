-- Printed for this claim by xprint.py of this session: contracts of this session's own stand in for what the print does not take
import Derived.Test.YtgaccappklhojaaPx13
namespace Go.Proofs.Ytgaccappklhojaa.P
open Go.RowKit Go.Proofs.YtgaccappklhojaaW.PrintWords Go.Proofs.YtgaccappklhojaaW.PrintLast
set_option linter.unusedVariables false
def wigwaglaw07_SpanMany.Pure : Prop := ∀ (l0 : List Int) (a1 : Int), l0.length ≤ maxLen → (∀ x ∈ l0, (Lit.int .u8 x).wf = true) → (Lit.int .u8 a1).wf = true → ∃ k, wigwaglaw07_SpanMany.f k l0 a1 = some true
end Go.Proofs.Ytgaccappklhojaa.P
