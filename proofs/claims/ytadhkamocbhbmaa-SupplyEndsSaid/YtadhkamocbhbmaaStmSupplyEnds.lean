-- Printed for this claim by xprint.py of this session: contracts of this session's own stand in for what the print does not take
import Derived.Test.YtadhkamocbhbmaaPx18
namespace Go.Proofs.Ytadhkamocbhbmaa.P
open Go.RowKit Go.Proofs.YtadhkamocbhbmaaW.PrintWords Go.Proofs.YtadhkamocbhbmaaW.PrintLast
set_option linter.unusedVariables false
def wigwaglaw18_SupplyEnds.Pure : Prop := ∀ (l0 : List Int) (a1 : Int) (l2 : List Bool), l0.length ≤ maxLen → (∀ x ∈ l0, (Lit.int .u8 x).wf = true) → (Lit.int .i64 a1).wf = true → l2.length ≤ maxLen → (∀ x ∈ l2, True) → ∃ k, wigwaglaw18_SupplyEnds.f k l0 a1 l2 = some true
end Go.Proofs.Ytadhkamocbhbmaa.P
