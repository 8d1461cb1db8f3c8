/- Any window behind bytes that came, a loss, and a collapse, is what the document says. No condition. -/
import Derived.Test.YtmajccpifkbdpaaXa
import Derived.Test.YtmajccpifkbdpaaStmRenoTells
namespace Go.Proofs.Ytmajccpifkbdpaa.Pure
open Go.RowKit Go.Proofs.Ytmajccpifkbdpaa.P Go.Proofs.YtmajccpifkbdpaaW.PrintWords Go.Proofs.YtmajccpifkbdpaaW.PrintLast
set_option linter.unusedVariables false
theorem RenoTells : wigwaglaw10_RenoTells.Pure := by
  intro c th si re bytes at_ now limited h1 h2 h3 h4 h5 h6 h7
  have h1 := wd_of h1; have h4 := wd_of h4; have h5 := wd_of h5; have h7 := wd_of h7
  refine ⟨5, ?_⟩
  unfold wigwaglaw10_RenoTells.f
  rw [awake_eq 5 (by omega), ack_eq 4 h1 h4 h5, rack_eq 4 h1 h4 h5, loss_eq h1 h7, rloss_eq h1 h7, held_eq, rheld_eq]
  simp [reno_Collapse.f, wigwagref10_Collapse.f, reno_New.f, wigwagref10_New.f]
end Go.Proofs.Ytmajccpifkbdpaa.Pure
