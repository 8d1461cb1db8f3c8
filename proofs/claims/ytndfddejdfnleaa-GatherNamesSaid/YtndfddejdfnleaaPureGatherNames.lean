import Derived.Test.YtndfddejdfnleaaPx15
namespace Go.Proofs.Ytndfddejdfnleaa.Pure
open Go.RowKit Go.Proofs.Ytndfddejdfnleaa.P Go.Proofs.YtndfddejdfnleaaW.PrintWords Go.Proofs.YtndfddejdfnleaaW.PrintLast

theorem GatherNames : wigwaglaw17_GatherNames.Pure := rfl

end Go.Proofs.Ytndfddejdfnleaa.Pure
