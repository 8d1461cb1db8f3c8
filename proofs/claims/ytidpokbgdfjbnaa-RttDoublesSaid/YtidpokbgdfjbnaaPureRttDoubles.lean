/- A timeout of one count more is twice as long, up to ten, as long as that is a number. No condition. -/
import Derived.Test.YtidpokbgdfjbnaaXa
import Derived.Test.YtidpokbgdfjbnaaStmRttDoubles
namespace Go.Proofs.Ytidpokbgdfjbnaa.Pure
open Go.RowKit Go.Proofs.Ytidpokbgdfjbnaa.P Go.Proofs.YtidpokbgdfjbnaaW.PrintWords Go.Proofs.YtidpokbgdfjbnaaW.PrintLast
set_option linter.unusedVariables false
theorem RttDoubles : wigwaglaw08_RttDoubles.Pure := by
  intro has la mi sm va most count h1 h2 h3 h4 h5 _
  have h3 := wd_of h3; have h4 := wd_of h4; have h5 := wd_of h5
  refine ⟨40, ?_⟩
  unfold wigwaglaw08_RttDoubles.f
  rw [awake_eq 40 (by omega)]
  simp only [Option.bind_some]
  have main : ∀ b : Bool, (b = false → 0 ≤ count ∧ count ≤ 9) → wigwaglaw08_RttDoubles.j0 40 most count true b has la mi sm va = some true := by
    intro b hb
    simp only [wigwaglaw08_RttDoubles.j0]
    by_cases h : b = true
    · rw [if_pos h, if_pos trivial, timeout_eq 37 has h3 h4 h5, timeout_eq 37 has h3 h4 h5, timeout_eq 37 has h3 h4 h5, timeout_eq 37 has h3 h4 h5]
      have r1 : rounds 10 = 10 := by decide
      have r2 : rounds 11 = 10 := by decide
      have r3 : rounds 0 = 0 := by decide
      have r4 : rounds (-1) = 0 := by decide
      simp [wait, r1, r2, r3, r4]
    · rw [if_neg h]
      obtain ⟨c0, c9⟩ := hb (by simpa using h)
      rw [show wrap64 (count + 1) = count + 1 by unfold wrap64; omega, timeout_eq 37 has h3 h4 h5, timeout_eq 37 has h3 h4 h5]
      simp only [Option.bind_some, if_true]
      have hw := wait0_wd (has := has) h3 h4 h5
      have hr : rounds (count + 1) = rounds count + 1 := by unfold rounds; omega
      have e2 : wait has sm va most (count + 1) = smul (wait has sm va most count) 2 := by
        unfold wait
        rw [smul_twice hw.1 (pow_small _ (rounds_le _)).1, hr, Int.pow_succ]
      have hd : Wd (wait has sm va most count) := smul_wd hw (pow_wd (rounds_le _))
      rw [e2]
      generalize wait has sm va most count = a at hd
      obtain ⟨a0, a1⟩ := hd
      by_cases ha : a ≥ 9223372036854775808
      · rw [if_pos ha, if_pos (by unfold smul; rw [if_neg (by omega)])]
      · rw [if_neg ha, if_pos (by omega)]
        have : smul a 2 = 2 * a := by unfold smul; rw [if_pos (by omega)]; omega
        rw [this, wrapu_id ⟨by omega, by omega⟩]
        simp
  by_cases hc : count < 0
  · rw [if_pos hc]
    exact main _ (by simp)
  · rw [if_neg hc]
    exact main _ (fun h => by simp at h; omega)
end Go.Proofs.Ytidpokbgdfjbnaa.Pure
