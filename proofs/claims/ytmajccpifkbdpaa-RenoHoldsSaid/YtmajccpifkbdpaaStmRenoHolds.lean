-- Printed for this claim by xprint.py of this session: contracts of this session's own stand in for what the print does not take
import Derived.Test.YtmajccpifkbdpaaPx7
namespace Go.Proofs.Ytmajccpifkbdpaa.P
open Go.RowKit Go.Proofs.YtmajccpifkbdpaaW.PrintWords Go.Proofs.YtmajccpifkbdpaaW.PrintLast
set_option linter.unusedVariables false
def renoHolds.WF34 (x : S34) : Prop := (Lit.int .i64 x.f0).wf = true ∧ (Lit.int .u64 x.f1).wf = true ∧ (Lit.int .u64 x.f2).wf = true ∧ (Lit.int .u64 x.f3).wf = true ∧ True
open renoHolds in
def wigwaglaw10_RenoHolds.Pure : Prop := ∀ (l0 : List (S34)), l0.length ≤ maxLen → (∀ x ∈ l0, WF34 x) → ∃ k, wigwaglaw10_RenoHolds.f k l0 = some true
end Go.Proofs.Ytmajccpifkbdpaa.P
