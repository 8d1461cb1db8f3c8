/- A receiver that tells its limit whenever it should, and a sender that sends all that it may, never meet a code. No condition. -/
import Derived.Test.YtgfmmbgljbabbaaXa
import Derived.Test.YtgfmmbgljbabbaaPx8
namespace Go.Proofs.Ytgfmmbgljbabbaa.Pure
open Go.RowKit Go.Proofs.Ytgfmmbgljbabbaa.P Go.Proofs.YtgfmmbgljbabbaaW.PrintWords Go.Proofs.YtgfmmbgljbabbaaW.PrintLast
theorem u32_of {x : Int} (h : (Lit.int .u32 x).wf = true) : 0 ≤ x ∧ x < 4294967296 := by
  simp [Lit.wf, IntKind.min, IntKind.max, IntKind.signed, IntKind.bits] at h
  exact ⟨by omega, by omega⟩
theorem meets_up {i : Int} (h0 : 0 ≤ i) (h1 : i < 100) : wrap64 (i + 1) = i + 1 := by unfold wrap64; omega
theorem meets_loop (w : Int) (hw0 : 0 ≤ w) (hw1 : w < 4294967296) (l : List Int) (hx : ∀ x ∈ l, (Lit.int .u32 x).wf = true) (d : Nat) : ∀ (i lim came rd_ : Int), 0 ≤ i → i ≤ 100 → (100 - i).toNat = d → 0 ≤ rd_ → rd_ ≤ came → came ≤ lim → lim ≤ (i + 1) * 4294967296 →
    ∃ k, wigwaglaw19_CreditMeets.l0 k w l true i lim came rd_ w lim came = some true := by
  induction d with
  | zero =>
    intro i lim came rd_ h0 h1 hd hr hrc hcl hlm
    refine ⟨2, ?_⟩
    simp only [wigwaglaw19_CreditMeets.l0, wigwaglaw19_CreditMeets.j1]
    rw [show decide (i < 100) = false by simp; omega]
    split <;> rfl
  | succ d ih =>
    intro i lim came rd_ h0 h1 hd hr hrc hcl hlm
    by_cases hl : i < (l.length : Int)
    · have hi : i < 100 := by omega
      have hlm' : lim ≤ 433791696896 := by
        have : (i + 1) * 4294967296 ≤ 101 * 4294967296 := Int.mul_le_mul_of_nonneg_right (by omega) (by omega)
        omega
      have hb : 0 ≤ rd l i ∧ rd l i < 4294967296 := by
        unfold rd
        rw [List.getD_eq_getElem?_getD, List.getElem?_eq_getElem (by omega)]
        exact u32_of (hx _ (List.getElem_mem _))
      generalize hb' : rd l i = b at hb
      have hL : Wd lim := ⟨by omega, by omega⟩
      have hC : Wd came := ⟨by omega, by omega⟩
      have hW : Wd w := ⟨hw0, by omega⟩
      have hs : ssub lim came = lim - came := by unfold ssub; rw [if_neg (by omega)]
      have hN : Wd (lim - came) := ⟨by omega, by omega⟩
      have ha : sadd came (lim - came) = lim := by unfold sadd; rw [if_pos (by omega)]; omega
      have hRR : mn (sadd rd_ b) lim = min (rd_ + b) lim := by rw [mn_eq]; unfold sadd; rw [if_pos (by omega)]
      generalize hq : min (rd_ + b) lim = r at hRR
      have hr0 : 0 ≤ r := by omega
      have hr1 : r ≤ lim := by omega
      have hlim : limitOf lim r w = if lim - r < w / 2 then max lim (r + w) else lim := by
        unfold limitOf ssub sadd
        rw [if_neg (show ¬ lim < r by omega), if_pos (show r + w < 18446744073709551616 by omega)]
      generalize hL2 : limitOf lim r w = lim2 at hlim
      have f1 : lim ≤ lim2 := by rw [hlim]; split <;> omega
      have f2 : w / 2 ≤ lim2 - r := by rw [hlim]; split <;> omega
      have f3 : lim2 ≤ lim + w := by rw [hlim]; split <;> omega
      have hlm2 : lim2 ≤ (i + 1 + 1) * 4294967296 := by
        have : (i + 1 + 1) * 4294967296 = (i + 1) * 4294967296 + 4294967296 := by rw [Int.add_mul (i + 1)]; omega
        omega
      obtain ⟨k, hk⟩ := ih (i + 1) lim2 lim r (by omega) (by omega) (by omega) hr0 hr1 f1 hlm2
      refine ⟨k + 4, ?_⟩
      simp only [wigwaglaw19_CreditMeets.l0, wigwaglaw19_CreditMeets.j1, wigwaglaw19_CreditMeets.j2, wigwaglaw19_CreditMeets.j3]
      rw [if_pos hl, show decide (i < 100) = true by simpa using hi, if_pos rfl, left_eq hL hC]
      simp only [Option.bind_some]
      rw [hs, use_eq hL hC hN, come_eq hL hC hN, hs, if_neg (by omega), if_neg (by omega)]
      simp only [Option.bind_some, if_true]
      rw [if_neg (by simp), if_pos h0, if_pos hl, ha, hb', wrapu_id ⟨hb.1, by omega⟩, read_eq hL hL ⟨by omega, by omega⟩ hW ⟨hb.1, by omega⟩]
      simp only [Option.bind_some]
      rw [hRR, hL2, if_neg (show ¬ lim2 < lim by omega)]
      have e1 : ((!(lim2 == lim)) != decide (lim2 > lim)) = false := by
        by_cases e : lim2 = lim
        · subst e; simp
        · have : lim2 > lim := by omega
          simp [e, this]
      rw [if_neg (by rw [e1]; simp), if_neg (show ¬ r > lim by omega), if_neg (show ¬ lim > lim2 by omega), wrapu_id hW, show IntKind.u64.wrap (Int.tdiv w 2) = w / 2 from half hW, show IntKind.u64.wrap (lim2 - r) = lim2 - r by rw [wrapu]; omega, show decide (lim2 - r < w / 2) = false by simp; omega, if_neg (by simp)]
      simp only [credit_Raise.f, Option.bind_some]
      rw [meets_up h0 hi, show mx lim lim2 = lim2 by rw [mx_eq]; omega]
      exact hk
    · refine ⟨2, ?_⟩
      simp only [wigwaglaw19_CreditMeets.l0, wigwaglaw19_CreditMeets.j1]
      rw [if_neg hl]
      rfl
theorem CreditMeets : wigwaglaw19_CreditMeets.Pure := by
  intro a l ha hl hl2 hx
  obtain ⟨ha0, ha1⟩ := u32_of ha
  obtain ⟨k, hk⟩ := meets_loop a ha0 ha1 l hx 100 0 a 0 0 (by omega) (by omega) (by omega) (by omega) (by omega) (by omega) (by omega)
  refine ⟨k, ?_⟩
  unfold wigwaglaw19_CreditMeets.f credit_Begin.f
  rw [awake_eq, wrapu_id ⟨ha0, by omega⟩]
  exact hk
end Go.Proofs.Ytgfmmbgljbabbaa.Pure
