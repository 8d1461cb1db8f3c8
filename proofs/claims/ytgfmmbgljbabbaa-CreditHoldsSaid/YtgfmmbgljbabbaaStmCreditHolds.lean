-- Printed for this claim by xprint.py of this session: contracts of this session's own stand in for what the print does not take
import Derived.Test.YtgfmmbgljbabbaaPx7
namespace Go.Proofs.Ytgfmmbgljbabbaa.P
open Go.RowKit Go.Proofs.YtgfmmbgljbabbaaW.PrintWords Go.Proofs.YtgfmmbgljbabbaaW.PrintLast
set_option linter.unusedVariables false
def creditHolds.WF41 (x : S41) : Prop := (Lit.int .i64 x.f0).wf = true ∧ (Lit.int .u64 x.f1).wf = true
open creditHolds in
def wigwaglaw19_CreditHolds.Pure : Prop := ∀ (a0 : Int) (l1 : List (S41)), (Lit.int .u64 a0).wf = true → l1.length ≤ maxLen → (∀ x ∈ l1, WF41 x) → ∃ k, wigwaglaw19_CreditHolds.f k a0 l1 = some true
end Go.Proofs.Ytgfmmbgljbabbaa.P
