-- Printed for this claim by xprint.py of this session: contracts of this session's own stand in for what the print does not take
import Derived.Test.YtgaccappklhojaaPx16
namespace Go.Proofs.Ytgaccappklhojaa.P
open Go.RowKit Go.Proofs.YtgaccappklhojaaW.PrintWords Go.Proofs.YtgaccappklhojaaW.PrintLast
set_option linter.unusedVariables false
def spanTail.WF25 (x : S25) : Prop := (Lit.int .u64 x.f0).wf = true ∧ (Lit.int .u64 x.f1).wf = true
open spanTail in
def wigwaglaw07_SpanTail.Pure : Prop := ∀ (l0 : List (S25)) (a1 : Int), l0.length ≤ maxLen → (∀ x ∈ l0, WF25 x) → (Lit.int .i64 a1).wf = true → ∃ k, wigwaglaw07_SpanTail.f k l0 a1 = some true
end Go.Proofs.Ytgaccappklhojaa.P
