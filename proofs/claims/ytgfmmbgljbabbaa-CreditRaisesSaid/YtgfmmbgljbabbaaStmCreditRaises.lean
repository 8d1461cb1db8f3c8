-- Printed for this claim by xprint.py of this session: contracts of this session's own stand in for what the print does not take
import Derived.Test.YtgfmmbgljbabbaaPx10
namespace Go.Proofs.Ytgfmmbgljbabbaa.P
open Go.RowKit Go.Proofs.YtgfmmbgljbabbaaW.PrintWords Go.Proofs.YtgfmmbgljbabbaaW.PrintLast
set_option linter.unusedVariables false
def wigwaglaw19_CreditRaises.Pure : Prop := ∀ (a0_0 : Int) (a0_1 : Int) (a1 : Int) (a2 : Int) (a3 : Int) (a4 : Int), (Lit.int .u64 a0_0).wf = true → (Lit.int .u64 a0_1).wf = true → (Lit.int .u64 a1).wf = true → (Lit.int .u64 a2).wf = true → (Lit.int .u64 a3).wf = true → (Lit.int .u64 a4).wf = true → ∃ k, wigwaglaw19_CreditRaises.f k a0_0 a0_1 a1 a2 a3 a4 = some true
end Go.Proofs.Ytgfmmbgljbabbaa.P
