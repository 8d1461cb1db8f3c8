/- While a round has fewer than eight samples, and does not end, nothing but its least time and their count changes. No condition. -/
import Derived.Test.YthclohjlbajclaaXa
import Derived.Test.YthclohjlbajclaaStmHystartFew
namespace Go.Proofs.Ythclohjlbajclaa.Pure
open Go.RowKit Go.Proofs.Ythclohjlbajclaa.P Go.Proofs.YthclohjlbajclaaW.PrintWords Go.Proofs.YthclohjlbajclaaW.PrintLast
set_option linter.unusedSimpArgs false
set_option linter.unusedVariables false
theorem few_up {i : Int} (h0 : 0 ≤ i) (h1 : i < 7) : wrap64 (i + 1) = i + 1 := by unfold wrap64; omega
theorem few_rd {l : List Int} (hw : ∀ x ∈ l, (Lit.int .u64 x).wf = true) {i : Int} (h0 : 0 ≤ i) (h1 : i < (l.length : Int)) : Wd (rd l i) := by
  unfold rd
  rw [List.getD_eq_getElem?_getD, List.getElem?_eq_getElem (by omega)]
  exact wd_of (hw _ (List.getElem_mem _))
/-- The least of the first samples, from i on. -/
def lows (l : List Int) : Nat → Int → Int → Int
  | 0, _, low => low
  | d + 1, i, low => if i < (l.length : Int) then lows l d (i + 1) (min low (rd l i)) else low
theorem few_l1 (l : List Int) (p e lm nm bs rn ct ct' nm' : Int) (d : Nat) : ∀ (k : Nat) (i low : Int), 0 ≤ i → i ≤ 7 → (7 - i).toNat = d → d + 1 ≤ k → nm' = lows l d i low →
    wigwaglaw11_HystartFew.l1 k l true low i p e lm nm ct bs rn p e lm nm' ct' bs rn = some true := by
  induction d with
  | zero =>
    intro k i low h0 h1 hd hk hn
    obtain ⟨k, rfl⟩ : ∃ m, k = m + 1 := ⟨k - 1, by omega⟩
    simp only [wigwaglaw11_HystartFew.l1, if_true]
    rw [show nm' = low from hn]
    rw [if_neg (show ¬ i < 7 by omega)]
    split <;> simp
  | succ d ih =>
    intro k i low h0 h1 hd hk hn
    obtain ⟨k, rfl⟩ : ∃ m, k = m + 1 := ⟨k - 1, by omega⟩
    simp only [wigwaglaw11_HystartFew.l1, if_true]
    by_cases hl : i < (l.length : Int)
    · rw [if_pos hl, if_pos (show i < 7 by omega), if_pos h0, mn_eq, few_up h0 (by omega)]
      refine ih k (i + 1) _ (by omega) (by omega) (by omega) (by omega) ?_
      rw [hn, lows, if_pos hl]
    · rw [if_neg hl, show nm' = low by rw [hn, lows, if_neg hl]]
      simp
theorem few_l0 (l : List Int) (hw : ∀ x ∈ l, (Lit.int .u64 x).wf = true) (next p e lm bs rn : Int) (hp : p = 0 ∨ p = 1) (he : Wd e) (he0 : e ≠ 0) (hx : Wd next) (hlm : Wd lm) (hrn : Wd rn) (nm0 : Int) (d : Nat) :
    ∀ (k : Nat) (i nm ct : Int), 0 ≤ i → i ≤ 7 → (7 - i).toNat = d → 2 * d + 16 ≤ k → Wd nm → ct = i → lows l 7 0 nm0 = lows l d i nm →
    wigwaglaw11_HystartFew.l0 k next l true i p e lm nm0 0 bs rn p e lm nm ct bs rn = some true := by
  induction d with
  | zero =>
    intro k i nm ct h0 h1 hd hk hnm hct hlow
    obtain ⟨k, rfl⟩ : ∃ m, k = m + 2 := ⟨k - 2, by omega⟩
    simp only [wigwaglaw11_HystartFew.l0, wigwaglaw11_HystartFew.j2]
    rw [show decide (i < 7) = false by simp; omega]
    have := few_l1 l p e lm nm0 bs rn 0 ct nm 7 k 0 nm0 (by omega) (by omega) (by omega) (by omega) (by rw [hlow]; rfl)
    split <;> exact this
  | succ d ih =>
    intro k i nm ct h0 h1 hd hk hnm hct hlow
    subst hct
    by_cases hl : ct < (l.length : Int)
    · have hi : ct < 7 := by omega
      have hr := few_rd hw h0 hl
      obtain ⟨k, rfl⟩ : ∃ m, k = m + 4 + 2 := ⟨k - 6, by omega⟩
      simp only [wigwaglaw11_HystartFew.l0, wigwaglaw11_HystartFew.j2]
      rw [if_pos hl, show decide (ct < 7) = true by simpa using hi, if_pos rfl, if_pos h0, if_pos hl, sample_eq k _ _ _ _ _ _ _ _ _ _ hlm hnm ⟨h0, by omega⟩ hrn]
      simp only [Option.bind_some]
      obtain ⟨e0, e1⟩ := he
      have hs : samp p e lm nm ct bs rn (IntKind.u64.wrap (e - 1)) next (rd l ct) = (p, e, lm, min nm (rd l ct), ct + 1, bs, rn) := by
        unfold samp
        rw [show decide (IntKind.u64.wrap (e - 1) ≥ e) = false by rw [wrapu]; simp; omega, Bool.and_false]
        unfold st0 st1 st2
        have ha : sadd ct 1 = ct + 1 := by unfold sadd; rw [if_pos (by omega)]
        rw [if_neg (by simp), if_neg (show ¬ p = 2 by omega), ha, show decide (ct + 1 < 8) = true by simp; omega, Bool.true_or, if_pos rfl]
      rw [hs, few_up h0 hi]
      refine ih (k + 4) (ct + 1) _ _ (by omega) (by omega) (by omega) (by omega) (min_wd hnm hr) rfl ?_
      rw [hlow, lows, if_pos hl]
    · obtain ⟨k, rfl⟩ : ∃ m, k = m + 2 := ⟨k - 2, by omega⟩
      simp only [wigwaglaw11_HystartFew.l0, wigwaglaw11_HystartFew.j2]
      rw [if_neg hl, if_neg (by simp)]
      exact few_l1 l p e lm nm0 bs rn 0 ct nm 7 k 0 nm0 (by omega) (by omega) (by omega) (by omega) (by rw [hlow, lows, if_neg hl])
theorem HystartFew : wigwaglaw11_HystartFew.Pure := by
  intro p e lm nm ct bs rn next l hp he hlm hnm hct hbs hrn hx hl hw
  have he := wd_of he; have hlm := wd_of hlm; have hnm := wd_of hnm; have hrn := wd_of hrn; have hx := wd_of hx
  refine ⟨100, ?_⟩
  unfold wigwaglaw11_HystartFew.f
  rw [awake_eq 100 (by omega)]
  simp only [Option.bind_some]
  have main : ∀ b : Bool, (b = false → (p = 0 ∨ p = 1) ∧ e ≠ 0) → wigwaglaw11_HystartFew.j0 100 next l true b p e lm nm ct bs rn = some true := by
    intro b hb
    simp only [wigwaglaw11_HystartFew.j0]
    by_cases h : b = true
    · rw [if_pos h]
    · rw [if_neg h]
      obtain ⟨h1, h2⟩ := hb (by simpa using h)
      exact few_l0 l hw next p e lm bs rn h1 he h2 hx hlm hrn nm 7 99 0 nm 0 (by omega) (by omega) (by omega) (by omega) hnm rfl rfl
  by_cases h0 : p = 0
  · rw [if_pos h0]
    exact main _ (fun h => ⟨.inl h0, by simpa using h⟩)
  · rw [if_neg h0]
    by_cases h1 : p = 1
    · rw [if_pos h1]
      exact main _ (fun h => ⟨.inr h1, by simpa using h⟩)
    · rw [if_neg h1]
      exact main _ (fun h => by simp at h)
end Go.Proofs.Ythclohjlbajclaa.Pure
