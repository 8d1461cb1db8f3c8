/- Any bucket behind some time, and bytes that are taken, and how long it takes, are what the document says. No condition. -/
import Derived.Test.YtiekeofcfpnlkaaXa
import Derived.Test.YtiekeofcfpnlkaaStmPacerTells
namespace Go.Proofs.Ytiekeofcfpnlkaa.Pure
open Go.RowKit Go.Proofs.Ytiekeofcfpnlkaa.P Go.Proofs.YtiekeofcfpnlkaaW.PrintWords Go.Proofs.YtiekeofcfpnlkaaW.PrintLast
set_option linter.unusedVariables false
theorem PacerTells : wigwaglaw16_PacerTells.Pure := by
  intro at_ tok rest now rate burst bytes h1 h2 h3 h4 h5 h6 h7
  have h1 := wd_of h1; have h2 := wd_of h2; have h3 := wd_of h3; have h4 := wd_of h4; have h5 := wd_of h5; have h7 := wd_of h7
  unfold wigwaglaw16_PacerTells.f
  obtain ⟨r, e1, e2⟩ := wait_same (a := at_) h2 h3 h7 h5
  obtain ⟨q, hq⟩ : ∃ q, pacer_Take.f at_ tok rest bytes = some q := by unfold pacer_Take.f; split <;> exact ⟨_, rfl⟩
  rw [awake_eq, take_eq, hq, fill_eq h1 h2 h3 h4 h5, rfill_eq h1 h2 h3 h4 h5, e1, e2]
  simp [pacer_New.f, wigwagref16_New.f]
end Go.Proofs.Ytiekeofcfpnlkaa.Pure
