/- The numbers of the phases are the document's. No condition. -/
import Derived.Test.YthclohjlbajclaaXa
import Derived.Test.YthclohjlbajclaaPx9
namespace Go.Proofs.Ythclohjlbajclaa.Pure
open Go.RowKit Go.Proofs.Ythclohjlbajclaa.P Go.Proofs.YthclohjlbajclaaW.PrintWords Go.Proofs.YthclohjlbajclaaW.PrintLast
theorem HystartNames : wigwaglaw11_HystartNames.Pure := by
  refine ⟨60, ?_⟩
  unfold wigwaglaw11_HystartNames.f
  rw [awake_eq 60 (by omega)]
  rfl
end Go.Proofs.Ythclohjlbajclaa.Pure
