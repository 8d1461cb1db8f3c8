-- Printed for this claim by xprint.py of this session: contracts of this session's own stand in for what the print does not take
import Derived.Test.YtgaccappklhojaaPx12
namespace Go.Proofs.Ytgaccappklhojaa.P
open Go.RowKit Go.Proofs.YtgaccappklhojaaW.PrintWords Go.Proofs.YtgaccappklhojaaW.PrintLast
set_option linter.unusedVariables false
def spanHolds.WF25 (x : S25) : Prop := (Lit.int .u64 x.f0).wf = true ∧ (Lit.int .u64 x.f1).wf = true
open spanHolds in
def wigwaglaw07_SpanHolds.Pure : Prop := ∀ (l0 : List (S25)) (l1 : List (S25)) (a2_0 : Int) (a2_1 : Int) (a3 : Int), l0.length ≤ maxLen → (∀ x ∈ l0, WF25 x) → l1.length ≤ maxLen → (∀ x ∈ l1, WF25 x) → (Lit.int .u64 a2_0).wf = true → (Lit.int .u64 a2_1).wf = true → (Lit.int .u64 a3).wf = true → ∃ k, wigwaglaw07_SpanHolds.f k l0 l1 a2_0 a2_1 a3 = some true
end Go.Proofs.Ytgaccappklhojaa.P
