-- Printed for this claim by xprint.py of this session: contracts of this session's own stand in for what the print does not take
import Derived.Test.YtmajccpifkbdpaaPx15
namespace Go.Proofs.Ytmajccpifkbdpaa.P
open Go.RowKit Go.Proofs.YtmajccpifkbdpaaW.PrintWords Go.Proofs.YtmajccpifkbdpaaW.PrintLast
set_option linter.unusedVariables false
def wigwaglaw10_RenoTells.Pure : Prop := ∀ (a0_0 : Int) (a0_1 : Int) (a0_2 : Int) (a0_3 : Int) (a1 : Int) (a2 : Int) (a3 : Int) (a4 : Bool), (Lit.int .u64 a0_0).wf = true → (Lit.int .u64 a0_1).wf = true → (Lit.int .u64 a0_2).wf = true → (Lit.int .u64 a0_3).wf = true → (Lit.int .u64 a1).wf = true → (Lit.int .u64 a2).wf = true → (Lit.int .u64 a3).wf = true → ∃ k, wigwaglaw10_RenoTells.f k a0_0 a0_1 a0_2 a0_3 a1 a2 a3 a4 = some true
end Go.Proofs.Ytmajccpifkbdpaa.P
