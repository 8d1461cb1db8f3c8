/- A sender never uses more than the greatest limit that it was told, whatever it asks for. No condition. -/
import Derived.Test.YtgfmmbgljbabbaaXa
import Derived.Test.YtgfmmbgljbabbaaStmCreditHolds
namespace Go.Proofs.Ytgfmmbgljbabbaa.Pure
open Go.RowKit Go.Proofs.Ytgfmmbgljbabbaa.P Go.Proofs.YtgfmmbgljbabbaaW.PrintWords Go.Proofs.YtgfmmbgljbabbaaW.PrintLast
theorem holds_rd {l : List S41} (hw : ∀ x ∈ l, P.creditHolds.WF41 x) {i : Int} (h0 : 0 ≤ i) (h1 : i < (l.length : Int)) : P.creditHolds.WF41 (rd_T41 l i) := by
  unfold rd_T41
  rw [List.getD_eq_getElem?_getD, List.getElem?_eq_getElem (by omega)]
  exact hw _ (List.getElem_mem _)
theorem wrap_up {i : Int} (h0 : 0 ≤ i) (h1 : i < 200) : wrap64 (i + 1) = i + 1 := by unfold wrap64; omega
theorem holds_loop (l : List S41) (hw : ∀ x ∈ l, P.creditHolds.WF41 x) (d : Nat) : ∀ (i most used : Int), 0 ≤ i → i ≤ 200 → (200 - i).toNat = d → Wd most → 0 ≤ used → used ≤ most →
    ∃ k, wigwaglaw19_CreditHolds.l0 k l true most used i most used = some true := by
  induction d with
  | zero =>
    intro i most used h0 h1 hd hm hu0 hu
    refine ⟨2, ?_⟩
    simp only [wigwaglaw19_CreditHolds.l0, wigwaglaw19_CreditHolds.j1]
    rw [show decide (i < 200) = false by simp; omega]
    split <;> rfl
  | succ d ih =>
    intro i most used h0 h1 hd hm hu0 hu
    by_cases hl : i < (l.length : Int)
    · have hi : i < 200 := by omega
      obtain ⟨_, hwf⟩ := holds_rd hw h0 hl
      have hn := wd_of hwf
      obtain ⟨hn0, hn1⟩ := hn
      obtain ⟨hm0, hm1⟩ := hm
      have hs : ssub most used = most - used := by unfold ssub; rw [if_neg (by omega)]
      have hwr : IntKind.u64.wrap (most - used) = most - used := by rw [wrapu]; omega
      have go : ∀ most' used' : Int, Wd most' → 0 ≤ used' → used' ≤ most' → ∃ k, ∀ lim u, lim = most' → u = used' → wigwaglaw19_CreditHolds.j2 k l true most' used' i lim u = some true := by
        intro most' used' hm' hu0' hu'
        obtain ⟨k, hk⟩ := ih (i + 1) most' used' (by omega) (by omega) (by omega) hm' hu0' hu'
        refine ⟨k + 1, fun lim u e1 e2 => ?_⟩
        subst e1 e2
        obtain ⟨hm0', hm1'⟩ := hm'
        simp only [wigwaglaw19_CreditHolds.j2, if_true]
        rw [if_neg (by omega), left_eq ⟨hm0', hm1'⟩ ⟨hu0', by omega⟩]
        simp only [Option.bind_some]
        rw [show ssub lim u = lim - u by unfold ssub; rw [if_neg (by omega)], show IntKind.u64.wrap (lim - u) = lim - u by rw [wrapu]; omega, if_pos rfl, wrap_up h0 hi]
        exact hk
      by_cases h1' : (rd_T41 l i).f0 = 1
      · by_cases hle : (rd_T41 l i).f1 ≤ most - used
        · obtain ⟨k, hk⟩ := go most (used + (rd_T41 l i).f1) ⟨hm0, hm1⟩ (by omega) (by omega)
          refine ⟨k + 2, ?_⟩
          simp only [wigwaglaw19_CreditHolds.l0, wigwaglaw19_CreditHolds.j1]
          rw [if_pos hl, show decide (i < 200) = true by simpa using hi, if_pos rfl, if_pos h0, if_pos hl, if_pos h1', use_eq ⟨hm0, hm1⟩ ⟨hu0, by omega⟩ ⟨hn0, hn1⟩, hs, if_neg (by omega)]
          simp only [Option.bind_some]
          rw [hwr, show decide ((rd_T41 l i).f1 ≤ most - used) = true by simpa using hle, if_neg (by simp), if_pos trivial, show IntKind.u64.wrap (used + (rd_T41 l i).f1) = used + (rd_T41 l i).f1 by rw [wrapu]; omega]
          exact hk _ _ rfl (by unfold sadd; rw [if_pos (by omega)])
        · obtain ⟨k, hk⟩ := go most used ⟨hm0, hm1⟩ hu0 hu
          refine ⟨k + 2, ?_⟩
          simp only [wigwaglaw19_CreditHolds.l0, wigwaglaw19_CreditHolds.j1]
          rw [if_pos hl, show decide (i < 200) = true by simpa using hi, if_pos rfl, if_pos h0, if_pos hl, if_pos h1', use_eq ⟨hm0, hm1⟩ ⟨hu0, by omega⟩ ⟨hn0, hn1⟩, hs, if_pos (by omega)]
          simp only [Option.bind_some]
          rw [hwr, show decide ((rd_T41 l i).f1 ≤ most - used) = false by simpa using hle, if_neg (by simp), if_neg (by simp)]
          exact hk _ _ rfl rfl
      · by_cases h2' : (rd_T41 l i).f0 = 2
        · have hmx : Wd (mx most (rd_T41 l i).f1) := by unfold mx; split <;> exact ⟨by omega, by omega⟩
          obtain ⟨k, hk⟩ := go (mx most (rd_T41 l i).f1) used hmx hu0 (by rw [mx_eq]; omega)
          refine ⟨k + 2, ?_⟩
          simp only [wigwaglaw19_CreditHolds.l0, wigwaglaw19_CreditHolds.j1]
          rw [if_pos hl, show decide (i < 200) = true by simpa using hi, if_pos rfl, if_pos h0, if_pos hl, if_neg h1', if_pos h2']
          exact hk _ _ rfl rfl
        · obtain ⟨k, hk⟩ := go most used ⟨hm0, hm1⟩ hu0 hu
          refine ⟨k + 2, ?_⟩
          simp only [wigwaglaw19_CreditHolds.l0, wigwaglaw19_CreditHolds.j1]
          rw [if_pos hl, show decide (i < 200) = true by simpa using hi, if_pos rfl, if_pos h0, if_pos hl, if_neg h1', if_neg h2']
          exact hk _ _ rfl rfl
    · refine ⟨2, ?_⟩
      simp only [wigwaglaw19_CreditHolds.l0, wigwaglaw19_CreditHolds.j1]
      rw [if_neg hl]
      rfl
theorem CreditHolds : wigwaglaw19_CreditHolds.Pure := by
  intro a l ha hl hw
  have ha := wd_of ha
  obtain ⟨k, hk⟩ := holds_loop l hw 200 0 a 0 (by omega) (by omega) (by omega) ha (by omega) ha.1
  refine ⟨k, ?_⟩
  unfold wigwaglaw19_CreditHolds.f
  rw [awake_eq]
  exact hk
end Go.Proofs.Ytgfmmbgljbabbaa.Pure
