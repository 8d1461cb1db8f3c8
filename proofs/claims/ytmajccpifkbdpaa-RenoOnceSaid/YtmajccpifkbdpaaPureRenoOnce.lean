/- Behind a loss none of a packet that was sent before it changes the window again, nor do bytes that came of one; a sender without more to send lets it be. No condition. -/
import Derived.Test.YtmajccpifkbdpaaXa
import Derived.Test.YtmajccpifkbdpaaStmRenoOnce
namespace Go.Proofs.Ytmajccpifkbdpaa.Pure
open Go.RowKit Go.Proofs.Ytmajccpifkbdpaa.P Go.Proofs.YtmajccpifkbdpaaW.PrintWords Go.Proofs.YtmajccpifkbdpaaW.PrintLast
set_option linter.unusedVariables false
theorem RenoOnce : wigwaglaw10_RenoOnce.Pure := by
  intro c th si re at_ now early bytes h1 h2 h3 h4 h5 h6 h7 h8
  have h1 := wd_of h1; have h4 := wd_of h4; have h5 := u32_of h5; have h6 := u32_of h6; have h7 := u32_of h7; have h8 := wd_of h8
  refine ⟨5, ?_⟩
  unfold wigwaglaw10_RenoOnce.f
  rw [awake_eq 5 (by omega), wrapu_id (small h5), wrapu_id (small h6), wrapu_id (small h7), loss_eq h1 (small h6)]
  simp only [Option.bind_some]
  by_cases h : at_ < si
  · rw [if_pos h]
    simp [loss, h]
  · rw [if_neg h]
    have hs : sadd now 1 = now + 1 := by unfold sadd; rw [if_pos (by omega)]
    have hl : loss c th si re at_ now = (held (c / 2), held (c / 2), now + 1, 0) := by unfold loss; rw [if_neg h, hs]
    rw [hl]
    simp only
    have hh : Wd (held (c / 2)) := by unfold held; exact ⟨by omega, by omega⟩
    have key : ∀ e : Int, e ≤ now → wigwaglaw10_RenoOnce.j0 5 at_ now bytes true e c th si re (held (c / 2)) (held (c / 2)) (now + 1) 0 = some true := by
      intro e he
      simp only [wigwaglaw10_RenoOnce.j0, if_true]
      rw [wrapu_id (small h6), wrapu_id (show Wd (now + 5) from ⟨by omega, by omega⟩), wrapu_id (small h5), loss_eq hh (show Wd (now + 5) from ⟨by omega, by omega⟩), ack_eq 3 hh zero_wd h8, ack_eq 3 h1 h4 h8]
      simp [loss, ack, show e < now + 1 by omega]
    split
    · exact key now (Int.le_refl _)
    · exact key early (by omega)
end Go.Proofs.Ytmajccpifkbdpaa.Pure
