-- Printed for this claim by xprint.py of this session: contracts of this session's own stand in for what the print does not take
import Derived.Test.YtmnpgcpejfkaaaaPx8
namespace Go.Proofs.Ytmnpgcpejfkaaaa.P
open Go.RowKit Go.Proofs.YtmnpgcpejfkaaaaW.PrintWords Go.Proofs.YtmnpgcpejfkaaaaW.PrintLast
set_option linter.unusedVariables false
def filtFalls.WF25 (x : S25) : Prop := (Lit.int .u64 x.f0).wf = true ∧ (Lit.int .u64 x.f1).wf = true
open filtFalls in
def wigwaglaw02_FiltFalls.Pure : Prop := ∀ (l0 : List (S25)) (a1 : Int) (a2_0 : Int) (a2_1 : Int), l0.length ≤ maxLen → (∀ x ∈ l0, WF25 x) → (Lit.int .u64 a1).wf = true → (Lit.int .u64 a2_0).wf = true → (Lit.int .u64 a2_1).wf = true → ∃ k, wigwaglaw02_FiltFalls.f k l0 a1 a2_0 a2_1 = some true
end Go.Proofs.Ytmnpgcpejfkaaaa.P
