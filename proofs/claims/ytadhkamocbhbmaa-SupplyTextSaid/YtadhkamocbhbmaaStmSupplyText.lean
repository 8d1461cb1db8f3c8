-- Printed for this claim by xprint.py of this session: contracts of this session's own stand in for what the print does not take
import Derived.Test.YtadhkamocbhbmaaPx27
namespace Go.Proofs.Ytadhkamocbhbmaa.P
open Go.RowKit Go.Proofs.YtadhkamocbhbmaaW.PrintWords Go.Proofs.YtadhkamocbhbmaaW.PrintLast
set_option linter.unusedVariables false
def supplyText.WF48 (x : S48) : Prop := (Lit.int .i64 x.f0).wf = true ∧ (x.f1.length ≤ maxLen ∧ ∀ y_ ∈ x.f1, (Lit.int .u8 y_).wf = true) ∧ (Lit.int .i64 x.f2).wf = true ∧ (Lit.int .u64 x.f3).wf = true ∧ (Lit.int .i64 x.f4).wf = true ∧ (Lit.int .u64 x.f5).wf = true ∧ True
open supplyText in
def wigwaglaw18_SupplyText.Pure : Prop := ∀ (l0 : List Int) (l1 : List (S48)), l0.length ≤ maxLen → (∀ x ∈ l0, (Lit.int .u8 x).wf = true) → l1.length ≤ maxLen → (∀ x ∈ l1, WF48 x) → ∃ k, wigwaglaw18_SupplyText.f k l0 l1 = some true
end Go.Proofs.Ytadhkamocbhbmaa.P
