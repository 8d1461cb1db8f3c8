-- Printed for this claim by xprint.py of this session: contracts of this session's own stand in for what the print does not take
import Derived.Test.YtiekeofcfpnlkaaProg
import Derived.Below
import Derived.Deep.Draws
import Derived.Deep.AppendLies
import Derived.Maps.AppendAt
import Derived.OwnWalk
import Derived.Laws.BytesArg
import Derived.Laws.MakeOwn
import Derived.Laws.OwnMore
import Derived.Deep.OwnRows
import Derived.Tactics
import Derived.Lib.ConvBytes
import Derived.Laws.Slices
import Derived.WalkKit
import Derived.KernelRfl
import Derived.RowKit3
import Derived.Deep.LoopGhost
import Derived.Deep.QuietTactic
import Derived.BigQuiet
import Derived.WideLaws
import Derived.Deep.DeepCutAuto
import Derived.Deep.CutBlock
import Derived.Deep.RegionHeld3
import Derived.Laws.Rows
import Derived.Lib.AppendStr
import Derived.ArgAppend
import Derived.Laws.IdiomCopy
import Derived.OrdersHeld
import Derived.Laws.BitsLemmas
import Derived.RowKit
import Derived.Test.YtiekeofcfpnlkaaXw
import Derived.Laws.Externs
import Derived.Lib.Mul64
import Derived.Laws.Bits64b
import Derived.Test.YtiekeofcfpnlkaaWWords
import Derived.Test.YtiekeofcfpnlkaaWLast
import Derived.Test.YtiekeofcfpnlkaaWTab
import Derived.Test.YtiekeofcfpnlkaaWFour
import Derived.Test.YtiekeofcfpnlkaaWQPut
import Derived.Test.YtiekeofcfpnlkaaWApart
import Derived.Test.YtiekeofcfpnlkaaWArr
import Derived.Test.YtiekeofcfpnlkaaWZeros
import Derived.Test.YtiekeofcfpnlkaaWFoot
import Derived.Test.YtiekeofcfpnlkaaWKept
import Derived.Test.YtiekeofcfpnlkaaWShare
import Derived.Test.YtiekeofcfpnlkaaWN
import Derived.Test.YtiekeofcfpnlkaaWFootNe
import Derived.Test.YtiekeofcfpnlkaaWAt
import Derived.Test.YtiekeofcfpnlkaaWEqStruct
import Derived.Test.YtiekeofcfpnlkaaWRepsOne
import Derived.Test.YtiekeofcfpnlkaaWInv
import Derived.Test.YtiekeofcfpnlkaaWInvWords
import Derived.Test.YtiekeofcfpnlkaaWGuard
import Derived.Test.YtiekeofcfpnlkaaWNEv
import Derived.Test.YtiekeofcfpnlkaaWMore
namespace Go.Proofs.Ytiekeofcfpnlkaa.P
open Go.RowKit Go.Proofs.YtiekeofcfpnlkaaW.PrintWords Go.Proofs.YtiekeofcfpnlkaaW.PrintLast Go.Proofs.YtiekeofcfpnlkaaW.PrintMore
attribute [local go_sem] max2_int min2_int max_two min_two max_three min_three max_four min_four   -- for this text's walks alone
set_option linter.unusedVariables false
set_option linter.unusedSimpArgs false



def errW : Option Int → Value
  | none => .nilIface
  | some c => .iface 0 (.int .i64 c)
theorem errW_none : errW none = .nilIface := rfl
theorem errW_some (c : Int) : errW (some c) = .iface 0 (.int .i64 c) := rfl

-- the values' own types

end Go.Proofs.Ytiekeofcfpnlkaa.P
