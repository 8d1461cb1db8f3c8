-- Printed for this claim by xprint.py of this session: contracts of this session's own stand in for what the print does not take
import Derived.Test.YtfgmikhlplbmeaaPx15
namespace Go.Proofs.Ytfgmikhlplbmeaa.P
open Go.RowKit Go.Proofs.YtfgmikhlplbmeaaW.PrintWords Go.Proofs.YtfgmikhlplbmeaaW.PrintLast
set_option linter.unusedVariables false
def ledgerAll.WF37 (x : S37) : Prop := (Lit.int .u64 x.f0).wf = true ∧ (Lit.int .u64 x.f1).wf = true ∧ (Lit.int .u64 x.f2).wf = true ∧ True
def ledgerAll.WF43 (x : S43) : Prop := (Lit.int .u64 x.f0).wf = true ∧ (Lit.int .u64 x.f1).wf = true
open ledgerAll in
def wigwaglaw09_LedgerAll.Pure : Prop := ∀ (l0 : List (S37)) (l1 : List (S43)) (a2 : Int) (a3 : Int) (a4 : Int), l0.length ≤ maxLen → (∀ x ∈ l0, WF37 x) → l1.length ≤ maxLen → (∀ x ∈ l1, WF43 x) → (Lit.int .u64 a2).wf = true → (Lit.int .u64 a3).wf = true → (Lit.int .u64 a4).wf = true → ∃ k, wigwaglaw09_LedgerAll.f k l0 l1 a2 a3 a4 = some true
end Go.Proofs.Ytfgmikhlplbmeaa.P
