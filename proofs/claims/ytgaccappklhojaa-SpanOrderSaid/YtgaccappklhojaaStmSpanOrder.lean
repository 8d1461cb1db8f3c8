-- Printed for this claim by xprint.py of this session: contracts of this session's own stand in for what the print does not take
import Derived.Test.YtgaccappklhojaaPx14
namespace Go.Proofs.Ytgaccappklhojaa.P
open Go.RowKit Go.Proofs.YtgaccappklhojaaW.PrintWords Go.Proofs.YtgaccappklhojaaW.PrintLast
set_option linter.unusedVariables false
def spanOrder.WF25 (x : S25) : Prop := (Lit.int .u64 x.f0).wf = true ∧ (Lit.int .u64 x.f1).wf = true
open spanOrder in
def wigwaglaw07_SpanOrder.Pure : Prop := ∀ (l0 : List (S25)) (a1_0 : Int) (a1_1 : Int) (a2_0 : Int) (a2_1 : Int), l0.length ≤ maxLen → (∀ x ∈ l0, WF25 x) → (Lit.int .u64 a1_0).wf = true → (Lit.int .u64 a1_1).wf = true → (Lit.int .u64 a2_0).wf = true → (Lit.int .u64 a2_1).wf = true → ∃ k, wigwaglaw07_SpanOrder.f k l0 a1_0 a1_1 a2_0 a2_1 = some true
end Go.Proofs.Ytgaccappklhojaa.P
