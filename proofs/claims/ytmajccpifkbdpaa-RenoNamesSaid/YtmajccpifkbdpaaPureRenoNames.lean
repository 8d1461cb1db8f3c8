/- The limits of windows are the document's. No condition. -/
import Derived.Test.YtmajccpifkbdpaaXa
import Derived.Test.YtmajccpifkbdpaaPx8
namespace Go.Proofs.Ytmajccpifkbdpaa.Pure
open Go.RowKit Go.Proofs.Ytmajccpifkbdpaa.P Go.Proofs.YtmajccpifkbdpaaW.PrintWords Go.Proofs.YtmajccpifkbdpaaW.PrintLast
theorem RenoNames : wigwaglaw10_RenoNames.Pure := by
  refine ⟨5, ?_⟩
  unfold wigwaglaw10_RenoNames.f
  rw [awake_eq 5 (by omega)]
  rfl
end Go.Proofs.Ytmajccpifkbdpaa.Pure
