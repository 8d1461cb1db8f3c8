-- Printed for this claim by xprint.py of this session: contracts of this session's own stand in for what the print does not take
import Derived.Test.YtfgmikhlplbmeaaPx27
namespace Go.Proofs.Ytfgmikhlplbmeaa.P
open Go.RowKit Go.Proofs.YtfgmikhlplbmeaaW.PrintWords Go.Proofs.YtfgmikhlplbmeaaW.PrintLast
set_option linter.unusedVariables false
def ledgerTakes.WF37 (x : S37) : Prop := (Lit.int .u64 x.f0).wf = true ∧ (Lit.int .u64 x.f1).wf = true ∧ (Lit.int .u64 x.f2).wf = true ∧ True
def ledgerTakes.WF43 (x : S43) : Prop := (Lit.int .u64 x.f0).wf = true ∧ (Lit.int .u64 x.f1).wf = true
open ledgerTakes in
def wigwaglaw09_LedgerTakes.Pure : Prop := ∀ (l0 : List (S37)) (l1 : List (S43)), l0.length ≤ maxLen → (∀ x ∈ l0, WF37 x) → l1.length ≤ maxLen → (∀ x ∈ l1, WF43 x) → ∃ k, wigwaglaw09_LedgerTakes.f k l0 l1 = some true
end Go.Proofs.Ytfgmikhlplbmeaa.P
