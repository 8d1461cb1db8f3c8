/- The least sample is that of all samples, and the latest the last one; behind them a timeout is no less than the most delay and one. No condition. -/
import Derived.Test.YtidpokbgdfjbnaaXa
import Derived.Test.YtidpokbgdfjbnaaPx10
namespace Go.Proofs.Ytidpokbgdfjbnaa.Pure
open Go.RowKit Go.Proofs.Ytidpokbgdfjbnaa.P Go.Proofs.YtidpokbgdfjbnaaW.PrintWords Go.Proofs.YtidpokbgdfjbnaaW.PrintLast
set_option linter.unusedVariables false
theorem low_u32 {x : Int} (h : (Lit.int .u32 x).wf = true) : 0 ≤ x ∧ x < 4294967296 := by
  simp [Lit.wf, IntKind.min, IntKind.max, IntKind.signed, IntKind.bits] at h
  exact ⟨by omega, by omega⟩
theorem low_small {x : Int} (h : 0 ≤ x ∧ x < 4294967296) : Wd x := ⟨h.1, by omega⟩
theorem low_rd {l : List Int} (hw : ∀ x ∈ l, (Lit.int .u32 x).wf = true) {i : Int} (h0 : 0 ≤ i) (h1 : i < (l.length : Int)) : 0 ≤ rd l i ∧ rd l i < 4294967296 := by
  unfold rd
  rw [List.getD_eq_getElem?_getD, List.getElem?_eq_getElem (by omega)]
  exact low_u32 (hw _ (List.getElem_mem _))
theorem low_up {i : Int} (h0 : 0 ≤ i) (h1 : i < 100) : wrap64 (i + 1) = i + 1 := by unfold wrap64; omega
/-- What is known behind some samples. -/
structure Low (low high : Int) (has : Bool) (mi sm va : Int) : Prop where
  hi : 0 ≤ high ∧ high < 4294967296
  none : has = false → low = 18446744073709551615 ∧ mi = 0 ∧ sm = 0 ∧ va = 0
  some : has = true → mi = low ∧ 0 ≤ low ∧ low < 4294967296 ∧ 0 ≤ sm ∧ sm ≤ high ∧ 0 ≤ va ∧ va ≤ high
theorem low_step {low high : Int} {has : Bool} {la mi sm va s delay most : Int} (h : Low low high has mi sm va) (hs : 0 ≤ s ∧ s < 4294967296) (hd : 0 ≤ delay ∧ delay < 4294967296) (ho : 0 ≤ most ∧ most < 4294967296) :
    let u := upd has la mi sm va s delay most
    u.1 = true ∧ u.2.1 = s ∧ u.2.2.1 = min low s ∧ Low (min low s) (max high s) u.1 u.2.2.1 u.2.2.2.1 u.2.2.2.2 := by
  obtain ⟨hh0, hh1⟩ := h.hi
  cases has with
  | false =>
    obtain ⟨e1, e2, e3, e4⟩ := h.none rfl
    subst e1 e2 e3 e4
    simp only [upd, Bool.false_eq_true, if_false]
    refine ⟨trivial, trivial, by omega, ⟨by omega, by omega⟩, fun q => by simp at q, fun _ => ?_⟩
    exact ⟨by omega, by omega, by omega, by omega, by omega, by omega, by omega⟩
  | true =>
    obtain ⟨rfl, a0, a1, b0, b1, c0, c1⟩ := h.some rfl
    simp only [upd, if_true]
    have hx : 0 ≤ less mi s delay most ∧ less mi s delay most ≤ s := by
      unfold less sadd
      constructor <;> (repeat' split) <;> omega
    generalize less mi s delay most = x at hx
    obtain ⟨x0, x1⟩ := hx
    refine ⟨trivial, trivial, trivial, ⟨by omega, by omega⟩, fun q => by simp at q, fun _ => ?_⟩
    refine ⟨rfl, by omega, by omega, ?_, ?_, ?_, ?_⟩
    · unfold smooth sadd; rw [if_pos (by omega)]; omega
    · unfold smooth sadd; rw [if_pos (by omega)]; omega
    · unfold vary sadd; rw [if_pos (by omega)]; omega
    · unfold vary sadd
      rw [if_pos (by omega)]
      have hf : max sm x - min sm x ≤ max high s := by omega
      have hf0 : 0 ≤ max sm x - min sm x := by omega
      generalize max sm x - min sm x = f at hf hf0
      have hv : va ≤ max high s := by omega
      generalize max high s = H at hf hv
      omega
theorem low_waits {has : Bool} {sm va most high : Int} (hhas : has = true) (hs : 0 ≤ sm ∧ sm ≤ high) (hv : 0 ≤ va ∧ va ≤ high) (hh : high < 4294967296) (ho : 0 ≤ most ∧ most < 4294967296) : ¬ wait has sm va most 0 ≤ most := by
  unfold wait wait0 rounds
  rw [if_pos hhas]
  have hq : smul 4 va = 4 * va := by unfold smul; rw [if_pos (by omega)]
  rw [hq]
  have e1 : sadd sm (max (4 * va) 1) = sm + max (4 * va) 1 := by unfold sadd; rw [if_pos (by omega)]
  have e2 : sadd (sm + max (4 * va) 1) most = sm + max (4 * va) 1 + most := by unfold sadd; rw [if_pos (by omega)]
  rw [e1, e2]
  show ¬ smul _ 1 ≤ most
  unfold smul
  rw [if_pos (by omega)]
  omega
theorem low_loop (l0 l1 : List Int) (most : Int) (ho : 0 ≤ most ∧ most < 4294967296) (h0 : ∀ x ∈ l0, (Lit.int .u32 x).wf = true) (h1 : ∀ x ∈ l1, (Lit.int .u32 x).wf = true) (hl : (l0.length : Int) ≤ 100) (d : Nat) :
    ∀ (k : Nat) (i low high : Int) (has : Bool) (la mi sm va : Int), 0 ≤ i → (100 - i).toNat = d → i ≤ 100 → 2 * d + 20 ≤ k → Low low high has mi sm va →
    wigwaglaw08_RttLow.l0 k l0 l1 most true low high i has la mi sm va = some true := by
  induction d with
  | zero =>
    intro k i low high has la mi sm va i0 hd i1 hk hL
    obtain ⟨k, rfl⟩ : ∃ m, k = m + 2 := ⟨k - 2, by omega⟩
    simp only [wigwaglaw08_RttLow.l0, wigwaglaw08_RttLow.j1]
    rw [if_neg (by omega)]
    rfl
  | succ d ih =>
    intro k i low high has la mi sm va i0 hd i1 hk hL
    obtain ⟨k, rfl⟩ : ∃ m, k = m + 2 := ⟨k - 2, by omega⟩
    simp only [wigwaglaw08_RttLow.l0, wigwaglaw08_RttLow.j1]
    obtain ⟨k, rfl⟩ : ∃ m, k = m + 2 := ⟨k - 2, by omega⟩
    by_cases hi : i < (l0.length : Int)
    · rw [if_pos hi]
      by_cases hi1 : i < (l1.length : Int)
      · have hs := low_rd h0 i0 hi
        have hdl := low_rd h1 i0 hi1
        rw [show decide (i < (l1.length : Int)) = true by simpa using hi1, if_pos rfl, if_pos i0, if_pos hi, if_pos hi1, wrapu_id (low_small hs), wrapu_id (low_small hdl), wrapu_id (low_small ho)]
        have hh := hL.hi
        have w : Wd mi ∧ Wd sm ∧ Wd va := by
          cases has with
          | false =>
            obtain ⟨_, e2, e3, e4⟩ := hL.none rfl
            subst e2 e3 e4
            exact ⟨⟨by omega, by omega⟩, ⟨by omega, by omega⟩, ⟨by omega, by omega⟩⟩
          | true =>
            obtain ⟨e, a0, a1, b0, b1, c0, c1⟩ := hL.some rfl
            exact ⟨⟨by omega, by omega⟩, ⟨by omega, by omega⟩, ⟨by omega, by omega⟩⟩
        rw [update_eq (k + 1) has w.1 w.2.1 w.2.2 (low_small hs) (low_small hdl) (low_small ho)]
        simp only [Option.bind_some]
        obtain ⟨u1, u2, u3, hL'⟩ := low_step (la := la) hL hs hdl ho
        generalize upd has la mi sm va (rd l0 i) (rd l1 i) most = u at u1 u2 u3 hL'
        obtain ⟨e, a0, a1, b0, b1, c0, c1⟩ := hL'.some u1
        have hh' := hL'.hi
        rw [if_pos u1, mn_eq, mx_eq, if_pos u3, if_pos u2, if_neg (by omega), if_neg (by omega), timeout_eq k u.1 (la := u.2.1) (mi := u.2.2.1) (show Wd u.2.2.2.1 from ⟨b0, by omega⟩) ⟨c0, by omega⟩ (low_small ho)]
        simp only [Option.bind_some]
        rw [if_neg (low_waits u1 ⟨b0, b1⟩ ⟨c0, c1⟩ hh'.2 ho), low_up i0 (by omega)]
        exact ih (k + 2) (i + 1) _ _ _ _ _ _ _ (by omega) (by omega) (by omega) (by omega) hL'
      · rw [show decide (i < (l1.length : Int)) = false by simpa using hi1]
        rfl
    · rw [if_neg hi]
      rfl
theorem RttLow : wigwaglaw08_RttLow.Pure := by
  intro l0 l1 most _ _ h0 _ _ h1 ho
  have ho := low_u32 ho
  refine ⟨300, ?_⟩
  unfold wigwaglaw08_RttLow.f
  rw [awake_eq 300 (by omega)]
  simp only [Option.bind_some]
  by_cases h : (l0.length : Int) > 100
  · rw [if_pos h]
  · rw [if_neg h]
    exact low_loop l0 l1 most ho h0 h1 (by omega) 100 300 0 18446744073709551615 0 false 0 0 0 0 (by omega) (by omega) (by omega) (by omega) ⟨by omega, fun _ => ⟨rfl, rfl, rfl, rfl⟩, fun q => by simp at q⟩
end Go.Proofs.Ytidpokbgdfjbnaa.Pure
