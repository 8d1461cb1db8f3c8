-- Printed for this claim by xprint.py of this session: contracts of this session's own stand in for what the print does not take
import Derived.Test.YtadhkamocbhbmaaPx19
namespace Go.Proofs.Ytadhkamocbhbmaa.P
open Go.RowKit Go.Proofs.YtadhkamocbhbmaaW.PrintWords Go.Proofs.YtadhkamocbhbmaaW.PrintLast
set_option linter.unusedVariables false
def wigwaglaw18_SupplyOnce.Pure : Prop := ∀ (l0 : List (List Int)) (a1 : Int), l0.length ≤ maxLen → (∀ x ∈ l0, (x.length ≤ maxLen ∧ ∀ y_ ∈ x, (Lit.int .u8 y_).wf = true)) → (Lit.int .i64 a1).wf = true → ∃ k, wigwaglaw18_SupplyOnce.f k l0 a1 = some true
end Go.Proofs.Ytadhkamocbhbmaa.P
