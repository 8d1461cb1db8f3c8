/- Losses, each behind the one ahead, halve a window again and again, down to the least. No condition. -/
import Derived.Test.YtmajccpifkbdpaaXa
import Derived.Test.YtmajccpifkbdpaaPx6
namespace Go.Proofs.Ytmajccpifkbdpaa.Pure
open Go.RowKit Go.Proofs.Ytmajccpifkbdpaa.P Go.Proofs.YtmajccpifkbdpaaW.PrintWords Go.Proofs.YtmajccpifkbdpaaW.PrintLast
set_option linter.unusedVariables false
theorem falls_loop (x : Int) (hx : Int.tmod x 30 < 30) (d : Nat) : ∀ (k : Nat) (i c th si re : Int), 0 ≤ i → i ≤ 30 → (30 - i).toNat = d → d + 2 ≤ k → 2400 ≤ c → c ≤ 16777216 → si ≤ 10 * i →
    wigwaglaw10_RenoFalls.l0 k x true i c th si re = some true := by
  induction d with
  | zero =>
    intro k i c th si re i0 i1 hd hk c0 c1 hs
    obtain ⟨k, rfl⟩ : ∃ m, k = m + 1 := ⟨k - 1, by omega⟩
    simp only [wigwaglaw10_RenoFalls.l0]
    rw [if_neg (by omega)]
    simp
    omega
  | succ d ih =>
    intro k i c th si re i0 i1 hd hk c0 c1 hs
    obtain ⟨k, rfl⟩ : ∃ m, k = m + 1 := ⟨k - 1, by omega⟩
    simp only [wigwaglaw10_RenoFalls.l0]
    by_cases hi : i < Int.tmod x 30
    · have wc : Wd c := ⟨by omega, by omega⟩
      have e5 : IntKind.u64.wrap (wrap64 ((wrap64 (10 * i)) + 5)) = 10 * i + 5 := by unfold wrap64; rw [wrapu]; omega
      have e9 : IntKind.u64.wrap (wrap64 ((wrap64 (10 * i)) + 9)) = 10 * i + 9 := by unfold wrap64; rw [wrapu]; omega
      rw [if_pos hi, e5, e9, loss_eq wc ⟨by omega, by omega⟩, half wc, mx_eq, up i0 (by omega)]
      simp only [Option.bind_some]
      have e : loss c th si re (10 * i + 5) (10 * i + 9) = (max (c / 2) 2400, max (c / 2) 2400, 10 * i + 10, 0) := by
        unfold loss
        rw [if_neg (by omega)]
        have e1 : sadd (10 * i + 9) 1 = 10 * i + 10 := by unfold sadd; rw [if_pos (by omega)]; omega
        rw [e1]
        unfold held
        rw [show min (max (c / 2) 2400) 16777216 = max (c / 2) 2400 by omega]
      rw [e]
      simp only [if_true]
      exact ih k (i + 1) _ _ _ _ (by omega) (by omega) (by omega) (by omega) (by omega) (by omega) (by omega)
    · rw [if_neg hi]
      simp
      omega
theorem RenoFalls : wigwaglaw10_RenoFalls.Pure := by
  intro n hn
  have hn : -9223372036854775808 ≤ n ∧ n ≤ 9223372036854775807 := by
    simp [Lit.wf, IntKind.min, IntKind.max, IntKind.signed, IntKind.bits] at hn
    exact ⟨by omega, by omega⟩
  refine ⟨100, ?_⟩
  unfold wigwaglaw10_RenoFalls.f
  rw [awake_eq 100 (by omega)]
  simp only [Option.bind_some]
  have main : ∀ m : Int, wigwaglaw10_RenoFalls.j0 100 m true = some true := by
    intro m
    simp only [wigwaglaw10_RenoFalls.j0, reno_New.f, Option.bind_some]
    exact falls_loop m (Int.tmod_lt_of_pos m (by omega)) 30 99 0 12000 16777216 0 0 (by omega) (by omega) (by omega) (by omega) (by omega) (by omega) (by omega)
  split <;> exact main _
end Go.Proofs.Ytmajccpifkbdpaa.Pure
