-- Printed for this claim by xprint.py of this session: contracts of this session's own stand in for what the print does not take
import Derived.Test.YtfgmikhlplbmeaaPx22
namespace Go.Proofs.Ytfgmikhlplbmeaa.P
open Go.RowKit Go.Proofs.YtfgmikhlplbmeaaW.PrintWords Go.Proofs.YtfgmikhlplbmeaaW.PrintLast
set_option linter.unusedVariables false
def ledgerLoses.WF37 (x : S37) : Prop := (Lit.int .u64 x.f0).wf = true ∧ (Lit.int .u64 x.f1).wf = true ∧ (Lit.int .u64 x.f2).wf = true ∧ True
open ledgerLoses in
def wigwaglaw09_LedgerLoses.Pure : Prop := ∀ (l0 : List (S37)) (a1 : Int) (a2 : Int) (a3 : Int) (a4 : Int), l0.length ≤ maxLen → (∀ x ∈ l0, WF37 x) → (Lit.int .u64 a1).wf = true → (Lit.int .u64 a2).wf = true → (Lit.int .u64 a3).wf = true → (Lit.int .u64 a4).wf = true → ∃ k, wigwaglaw09_LedgerLoses.f k l0 a1 a2 a3 a4 = some true
end Go.Proofs.Ytfgmikhlplbmeaa.P
