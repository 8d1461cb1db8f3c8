-- Printed for this claim by xprint.py of this session: contracts of this session's own stand in for what the print does not take
import Derived.Test.YtidpokbgdfjbnaaProg
import Derived.Below
import Derived.Deep.Draws
import Derived.Deep.AppendLies
import Derived.Maps.AppendAt
import Derived.OwnWalk
import Derived.Laws.BytesArg
import Derived.Laws.MakeOwn
import Derived.Laws.OwnMore
import Derived.Deep.OwnRows
import Derived.Tactics
import Derived.Lib.ConvBytes
import Derived.Laws.Slices
import Derived.WalkKit
import Derived.KernelRfl
import Derived.RowKit3
import Derived.Deep.LoopGhost
import Derived.Deep.QuietTactic
import Derived.BigQuiet
import Derived.WideLaws
import Derived.Deep.DeepCutAuto
import Derived.Deep.CutBlock
import Derived.Deep.RegionHeld3
import Derived.Laws.Rows
import Derived.Lib.AppendStr
import Derived.ArgAppend
import Derived.Laws.IdiomCopy
import Derived.OrdersHeld
import Derived.Laws.BitsLemmas
import Derived.RowKit
import Derived.Test.YtidpokbgdfjbnaaXw
import Derived.Laws.Externs
import Derived.Lib.Mul64
import Derived.Laws.Bits64b
import Derived.Test.YtidpokbgdfjbnaaWWords
import Derived.Test.YtidpokbgdfjbnaaWLast
import Derived.Test.YtidpokbgdfjbnaaWTab
import Derived.Test.YtidpokbgdfjbnaaWFour
import Derived.Test.YtidpokbgdfjbnaaWQPut
import Derived.Test.YtidpokbgdfjbnaaWApart
import Derived.Test.YtidpokbgdfjbnaaWArr
import Derived.Test.YtidpokbgdfjbnaaWZeros
import Derived.Test.YtidpokbgdfjbnaaWFoot
import Derived.Test.YtidpokbgdfjbnaaWKept
import Derived.Test.YtidpokbgdfjbnaaWShare
import Derived.Test.YtidpokbgdfjbnaaWN
import Derived.Test.YtidpokbgdfjbnaaWFootNe
import Derived.Test.YtidpokbgdfjbnaaWAt
import Derived.Test.YtidpokbgdfjbnaaWEqStruct
import Derived.Test.YtidpokbgdfjbnaaWRepsOne
import Derived.Test.YtidpokbgdfjbnaaWInv
import Derived.Test.YtidpokbgdfjbnaaWInvWords
import Derived.Test.YtidpokbgdfjbnaaWGuard
import Derived.Test.YtidpokbgdfjbnaaWNEv
import Derived.Test.YtidpokbgdfjbnaaWMore
namespace Go.Proofs.Ytidpokbgdfjbnaa.P
open Go.RowKit Go.Proofs.YtidpokbgdfjbnaaW.PrintWords Go.Proofs.YtidpokbgdfjbnaaW.PrintLast Go.Proofs.YtidpokbgdfjbnaaW.PrintMore
attribute [local go_sem] max2_int min2_int max_two min_two max_three min_three max_four min_four   -- for this text's walks alone
set_option linter.unusedVariables false
set_option linter.unusedSimpArgs false



def errW : Option Int → Value
  | none => .nilIface
  | some c => .iface 0 (.int .i64 c)
theorem errW_none : errW none = .nilIface := rfl
theorem errW_some (c : Int) : errW (some c) = .iface 0 (.int .i64 c) := rfl

-- the values' own types

end Go.Proofs.Ytidpokbgdfjbnaa.P
