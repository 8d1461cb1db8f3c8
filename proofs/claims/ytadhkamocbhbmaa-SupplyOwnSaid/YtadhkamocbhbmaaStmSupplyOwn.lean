-- Printed for this claim by xprint.py of this session: contracts of this session's own stand in for what the print does not take
import Derived.Test.YtadhkamocbhbmaaPx21
namespace Go.Proofs.Ytadhkamocbhbmaa.P
open Go.RowKit Go.Proofs.YtadhkamocbhbmaaW.PrintWords Go.Proofs.YtadhkamocbhbmaaW.PrintLast
set_option linter.unusedVariables false
def wigwaglaw18_SupplyOwn.Pure : Prop := ∀ (l0 : List Int) (a1 : Int), l0.length ≤ maxLen → (∀ x ∈ l0, (Lit.int .u8 x).wf = true) → (Lit.int .i64 a1).wf = true → ∃ k, wigwaglaw18_SupplyOwn.f k l0 a1 = some true
end Go.Proofs.Ytadhkamocbhbmaa.P
