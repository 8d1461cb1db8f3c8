/- The numbers of the codes are the document's. No condition. -/
import Derived.Test.YtgfmmbgljbabbaaXa
import Derived.Test.YtgfmmbgljbabbaaPx9
namespace Go.Proofs.Ytgfmmbgljbabbaa.Pure
open Go.RowKit Go.Proofs.Ytgfmmbgljbabbaa.P Go.Proofs.YtgfmmbgljbabbaaW.PrintWords Go.Proofs.YtgfmmbgljbabbaaW.PrintLast
theorem CreditNames : wigwaglaw19_CreditNames.Pure := by
  unfold wigwaglaw19_CreditNames.Pure wigwaglaw19_CreditNames.f
  rw [awake_eq]
  rfl
end Go.Proofs.Ytgfmmbgljbabbaa.Pure
