/- Of equal samples without a delay the least one stays it, and the smooth one is it, or less by at most seven. No condition. -/
import Derived.Test.YtidpokbgdfjbnaaXa
import Derived.Test.YtidpokbgdfjbnaaPx11
namespace Go.Proofs.Ytidpokbgdfjbnaa.Pure
open Go.RowKit Go.Proofs.Ytidpokbgdfjbnaa.P Go.Proofs.YtidpokbgdfjbnaaW.PrintWords Go.Proofs.YtidpokbgdfjbnaaW.PrintLast
set_option linter.unusedVariables false
theorem stays_up {i : Int} (h0 : 0 ≤ i) (h1 : i < 60) : wrap64 (i + 1) = i + 1 := by unfold wrap64; omega
theorem stays_loop (s : Int) (hs : 0 ≤ s ∧ s < 4294967296) (n : Int) (hn : n < 60) (d : Nat) : ∀ (k : Nat) (i la sm va : Int), 0 ≤ i → i ≤ 60 → (60 - i).toNat = d → d + 5 ≤ k → 0 ≤ sm → sm ≤ s → s ≤ sm + 7 → 0 ≤ va → va ≤ s →
    wigwaglaw08_RttStays.l0 k s n true i true la s sm va = some true := by
  induction d with
  | zero =>
    intro k i la sm va i0 i1 hd hk _ _ _ _ _
    obtain ⟨k, rfl⟩ : ∃ m, k = m + 1 := ⟨k - 1, by omega⟩
    simp only [wigwaglaw08_RttStays.l0]
    rw [if_neg (by omega)]
  | succ d ih =>
    intro k i la sm va i0 i1 hd hk a0 a1 a2 b0 b1
    obtain ⟨k, rfl⟩ : ∃ m, k = m + 1 := ⟨k - 1, by omega⟩
    simp only [wigwaglaw08_RttStays.l0]
    obtain ⟨k, rfl⟩ : ∃ m, k = m + 1 := ⟨k - 1, by omega⟩
    by_cases hi : i < n
    · have hsw : Wd s := ⟨hs.1, by omega⟩
      rw [if_pos hi, wrapu_id hsw, update_eq k true (show Wd s from hsw) (show Wd sm from ⟨a0, by omega⟩) (show Wd va from ⟨b0, by omega⟩) hsw (show Wd 0 from ⟨by omega, by omega⟩) (show Wd 25 from ⟨by omega, by omega⟩)]
      have hl : less s s 0 25 = s := by unfold less sadd; (repeat' split) <;> omega
      simp only [Option.bind_some, upd, if_true, hl]
      have hsm : smooth sm s = sm - sm / 8 + s / 8 := by unfold smooth sadd; rw [if_pos (by omega)]
      have hva : vary sm va s = va - va / 4 + (max sm s - min sm s) / 4 := by unfold vary sadd; rw [if_pos (by omega)]
      rw [hsm, hva]
      rw [if_pos (by omega)]
      rw [if_neg (show ¬ sm - sm / 8 + s / 8 > s by omega), wrapu_id (show Wd (sm - sm / 8 + s / 8 + 7) from ⟨by omega, by omega⟩), if_neg (show ¬ sm - sm / 8 + s / 8 + 7 < s by omega), if_neg (show ¬ va - va / 4 + (max sm s - min sm s) / 4 > s by omega), stays_up i0 (by omega), show min s s = s by omega]
      exact ih (k + 1) (i + 1) s (sm - sm / 8 + s / 8) (va - va / 4 + (max sm s - min sm s) / 4) (by omega) (by omega) (by omega) (by omega) (by omega) (by omega) (by omega) (by omega) (by omega)
    · rw [if_neg hi]
theorem RttStays : wigwaglaw08_RttStays.Pure := by
  intro s n hs hn
  have hs : 0 ≤ s ∧ s < 4294967296 := by
    simp [Lit.wf, IntKind.min, IntKind.max, IntKind.signed, IntKind.bits] at hs
    exact ⟨by omega, by omega⟩
  have hn : -9223372036854775808 ≤ n ∧ n ≤ 9223372036854775807 := by
    simp [Lit.wf, IntKind.min, IntKind.max, IntKind.signed, IntKind.bits] at hn
    exact ⟨by omega, by omega⟩
  refine ⟨100, ?_⟩
  unfold wigwaglaw08_RttStays.f
  rw [awake_eq 100 (by omega)]
  simp only [Option.bind_some]
  have main : ∀ m : Int, 0 ≤ m → wigwaglaw08_RttStays.j0 100 s m true = some true := by
    intro m hm
    have hsw : Wd s := ⟨hs.1, by omega⟩
    simp only [wigwaglaw08_RttStays.j0]
    rw [wrapu_id hsw, update_eq 98 false (show Wd 0 from ⟨by omega, by omega⟩) (show Wd 0 from ⟨by omega, by omega⟩) (show Wd 0 from ⟨by omega, by omega⟩) hsw (show Wd 0 from ⟨by omega, by omega⟩) (show Wd 25 from ⟨by omega, by omega⟩)]
    simp only [Option.bind_some, upd]
    rw [if_neg (by simp)]
    have hm60 : Int.tmod m 60 < 60 := Int.tmod_lt_of_pos m (by omega)
    exact stays_loop s hs _ hm60 60 99 0 s s (s / 2) (by omega) (by omega) (by omega) (by omega) (by omega) (by omega) (by omega) (by omega) (by omega)
  by_cases h : n < 0
  · rw [if_pos h]
    refine main _ ?_
    have e1 : wrap64 (n + 1) = n + 1 := by unfold wrap64; omega
    rw [e1]
    have e2 : wrap64 (-(n + 1)) = -(n + 1) := by unfold wrap64; omega
    rw [e2]
    omega
  · rw [if_neg h]
    exact main _ (by omega)
end Go.Proofs.Ytidpokbgdfjbnaa.Pure
