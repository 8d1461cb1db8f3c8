/- Ahead of its thresh a window grows by just the bytes that came, in however many parts, up to the greatest. No condition. -/
import Derived.Test.YtmajccpifkbdpaaXa
import Derived.Test.YtmajccpifkbdpaaPx11
namespace Go.Proofs.Ytmajccpifkbdpaa.Pure
open Go.RowKit Go.Proofs.Ytmajccpifkbdpaa.P Go.Proofs.YtmajccpifkbdpaaW.PrintWords Go.Proofs.YtmajccpifkbdpaaW.PrintLast
set_option linter.unusedVariables false
theorem slow_loop (l : List Int) (h1 : ∀ x ∈ l, (Lit.int .u32 x).wf = true) (d : Nat) :
    ∀ (k : Nat) (i c : Int), 0 ≤ i → i ≤ 50 → (50 - i).toNat = d → 2 * d + 6 ≤ k → 12000 ≤ c → c < 16777216 →
    wigwaglaw10_RenoSlow.l0 k l true c i c 16777216 0 0 = some true := by
  induction d with
  | zero =>
    intro k i c i0 i1 hd hk c0 c1
    obtain ⟨k, rfl⟩ : ∃ m, k = m + 2 := ⟨k - 2, by omega⟩
    simp only [wigwaglaw10_RenoSlow.l0, wigwaglaw10_RenoSlow.j1]
    rw [show decide (i < 50) = false by simp; omega]
    split <;> simp
  | succ d ih =>
    intro k i c i0 i1 hd hk c0 c1
    obtain ⟨k, rfl⟩ : ∃ m, k = m + 2 := ⟨k - 2, by omega⟩
    simp only [wigwaglaw10_RenoSlow.l0, wigwaglaw10_RenoSlow.j1]
    obtain ⟨k, rfl⟩ : ∃ m, k = m + 1 := ⟨k - 1, by omega⟩
    by_cases hl : i < (l.length : Int)
    · rw [if_pos hl, show decide (i < 50) = true by simp; omega, if_pos rfl, if_pos i0, if_pos hl]
      have hp : 0 ≤ rd l i ∧ rd l i < 4294967296 := by
        unfold rd
        rw [List.getD_eq_getElem?_getD, List.getElem?_eq_getElem (by omega)]
        exact u32_of (h1 _ (List.getElem_mem _))
      generalize rd l i = p at hp
      rw [wrapu_id (small hp), wrapu_id (show Wd (c + p) from ⟨by omega, by omega⟩), mn_eq, ack_eq k (show Wd c from ⟨by omega, by omega⟩) zero_wd (small hp), up i0 (by omega)]
      have e : ack c 16777216 0 0 p 0 false = (min (c + p) 16777216, 16777216, 0, 0) := by
        unfold ack
        rw [if_neg (by simp), if_pos c1]
        have e1 : sadd c p = c + p := by unfold sadd; rw [if_pos (by omega)]
        rw [e1]
        unfold held
        rw [show min (max (c + p) 2400) 16777216 = min (c + p) 16777216 by omega]
      rw [e]
      simp only [Option.bind_some, if_true]
      by_cases hq : min (c + p) 16777216 = 16777216
      · rw [if_pos hq]
        rfl
      · rw [if_neg hq]
        exact ih (k + 1) (i + 1) _ (by omega) (by omega) (by omega) (by omega) (by omega) (by omega)
    · rw [if_neg hl]
      simp
theorem RenoSlow : wigwaglaw10_RenoSlow.Pure := by
  intro l _ _ h1
  refine ⟨200, ?_⟩
  unfold wigwaglaw10_RenoSlow.f
  rw [awake_eq 200 (by omega)]
  simp only [reno_New.f, Option.bind_some]
  exact slow_loop l h1 50 200 0 12000 (by omega) (by omega) (by omega) (by omega) (by omega) (by omega)
end Go.Proofs.Ytmajccpifkbdpaa.Pure
