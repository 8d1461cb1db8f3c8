-- Printed for this claim by xprint.py of this session: contracts of this session's own stand in for what the print does not take
import Derived.Test.YtndfddejdfnleaaPx18
namespace Go.Proofs.Ytndfddejdfnleaa.P
open Go.RowKit Go.Proofs.YtndfddejdfnleaaW.PrintWords Go.Proofs.YtndfddejdfnleaaW.PrintLast
set_option linter.unusedVariables false
def gatherPrefix.WF30 (x : S30) : Prop := (Lit.int .i64 x.f0).wf = true ∧ (Lit.int .i64 x.f1).wf = true ∧ (Lit.int .i64 x.f2).wf = true
open gatherPrefix in
def wigwaglaw17_GatherPrefix.Pure : Prop := ∀ (l0 : List Int) (l1 : List (S30)), l0.length ≤ maxLen → (∀ x ∈ l0, (Lit.int .u8 x).wf = true) → l1.length ≤ maxLen → (∀ x ∈ l1, WF30 x) → ∃ k, wigwaglaw17_GatherPrefix.f k l0 l1 = some true
end Go.Proofs.Ytndfddejdfnleaa.P
