-- Printed for this claim by xprint.py of this session: contracts of this session's own stand in for what the print does not take
import Derived.Test.YthclohjlbajclaaPx6
namespace Go.Proofs.Ythclohjlbajclaa.P
open Go.RowKit Go.Proofs.YthclohjlbajclaaW.PrintWords Go.Proofs.YthclohjlbajclaaW.PrintLast
set_option linter.unusedVariables false
def hystartEnds.WF33 (x : S33) : Prop := (Lit.int .u64 x.f0).wf = true ∧ (Lit.int .u64 x.f1).wf = true ∧ (Lit.int .u64 x.f2).wf = true
open hystartEnds in
def wigwaglaw11_HystartEnds.Pure : Prop := ∀ (a0 : Int) (l1 : List (S33)), (Lit.int .u64 a0).wf = true → l1.length ≤ maxLen → (∀ x ∈ l1, WF33 x) → ∃ k, wigwaglaw11_HystartEnds.f k a0 l1 = some true
end Go.Proofs.Ythclohjlbajclaa.P
