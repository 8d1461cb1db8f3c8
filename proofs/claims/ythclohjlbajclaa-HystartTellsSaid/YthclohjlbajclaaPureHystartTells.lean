/- Any slow start behind a time that an answer took, and by how much a window grows, is what the document says. No condition. -/
import Derived.Test.YthclohjlbajclaaXa
import Derived.Test.YthclohjlbajclaaStmHystartTells
namespace Go.Proofs.Ythclohjlbajclaa.Pure
open Go.RowKit Go.Proofs.Ythclohjlbajclaa.P Go.Proofs.YthclohjlbajclaaW.PrintWords Go.Proofs.YthclohjlbajclaaW.PrintLast
theorem HystartTells : wigwaglaw11_HystartTells.Pure := by
  intro p e lm nm ct bs rn number next took bytes hp he hlm hnm hct hbs hrn hnumber hnext htook hbytes
  refine ⟨60, ?_⟩
  unfold wigwaglaw11_HystartTells.f
  rw [awake_eq 60 (by omega), sample_eq 56 _ _ _ _ _ _ _ _ _ _ (wd_of hlm) (wd_of hnm) (wd_of hct) (wd_of hrn), rsample_eq 56 _ _ _ _ _ _ _ _ _ _ (wd_of hlm) (wd_of hnm) (wd_of hct) (wd_of hrn)]
  simp only [Option.bind_some, if_true, beq_self_eq_true, Bool.and_self, hystart_Grow.f, wigwagref11_Grow.f, hystart_New.f, wigwagref11_New.f, hystart_Finish.f, wigwagref11_Finish.f]
  by_cases h0 : p = 0
  · simp [h0]
  · by_cases h1 : p = 1
    · simp [h1]
    · simp [h0, h1]
end Go.Proofs.Ythclohjlbajclaa.Pure
