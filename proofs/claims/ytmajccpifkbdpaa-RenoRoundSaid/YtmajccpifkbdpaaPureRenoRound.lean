/- A window that grows slowly grows by a packet at most for as many bytes as it has, in however many parts they come, and by just a packet where they come at once. No condition. -/
import Derived.Test.YtmajccpifkbdpaaXa
import Derived.Test.YtmajccpifkbdpaaPx10
namespace Go.Proofs.Ytmajccpifkbdpaa.Pure
open Go.RowKit Go.Proofs.Ytmajccpifkbdpaa.P Go.Proofs.YtmajccpifkbdpaaW.PrintWords Go.Proofs.YtmajccpifkbdpaaW.PrintLast
set_option linter.unusedVariables false
/-- Some of the bytes: what is earned is no more than they pay for. -/
theorem round_ack {w c re b left : Int} (hw : 2400 ≤ w ∧ w ≤ 1002400) (hc : w ≤ c) (hr : 0 ≤ re) (hb : 0 ≤ b ∧ b ≤ left) (hl : left ≤ w) (hi : (c - w) * w + re ≤ 1200 * (w - left)) :
    ∃ c' re', ack c 2400 0 re b 0 false = (c', 2400, 0, re') ∧ w ≤ c' ∧ c' ≤ w + 1200 ∧ 0 ≤ re' ∧ (c' - w) * w + re' ≤ 1200 * (w - (left - b)) := by
  have hcw : 0 ≤ (c - w) * w := Int.mul_nonneg (by omega) (by omega)
  have hre : re ≤ 1202880000 := by omega
  have bound : ∀ x y : Int, 0 ≤ y → (x - w) * w + y ≤ 1200 * w → x ≤ w + 1200 := by
    intro x y hy h
    rcases Int.lt_or_le (w + 1200) x with hx | hx
    · exfalso
      have := Int.mul_le_mul_of_nonneg_right (show 1201 ≤ x - w by omega) (show 0 ≤ w by omega)
      omega
    · exact hx
  have hc2 := bound c re hr (by omega)
  unfold ack
  rw [if_neg (by simp), if_neg (by omega)]
  have e1 : smul b 1200 = b * 1200 := by unfold smul; rw [if_pos (by omega)]
  have e2 : sadd re (b * 1200) = re + b * 1200 := by unfold sadd; rw [if_pos (by omega)]
  rw [e1, e2, show max c 1 = c by omega]
  generalize hs : re + b * 1200 = s
  have s0 : 0 ≤ s := by omega
  have q0 : 0 ≤ s / c := Int.ediv_nonneg s0 (by omega)
  have hdm := Int.mul_ediv_add_emod s c
  have hm0 := Int.emod_nonneg s (show c ≠ 0 by omega)
  generalize hq : s / c = q at q0 hdm
  generalize hm : s % c = m at hdm hm0
  have hqc : w * q ≤ c * q := Int.mul_le_mul_of_nonneg_right hc q0
  have hexp : (c + q - w) * w = (c - w) * w + w * q := by rw [show c + q - w = c - w + q by omega, Int.add_mul, Int.mul_comm q w]
  have hi' : (c + q - w) * w + m ≤ 1200 * (w - (left - b)) := by rw [hexp]; omega
  have hc3 := bound (c + q) m hm0 (by omega)
  have e3 : sadd c q = c + q := by unfold sadd; rw [if_pos (by omega)]
  have e4 : held (c + q) = c + q := by unfold held; omega
  refine ⟨c + q, m, by rw [e3, e4], by omega, hc3, hm0, hi'⟩
theorem round_loop (w : Int) (hw : 2400 ≤ w ∧ w ≤ 1002400) (l : List Int) (h1 : ∀ x ∈ l, (Lit.int .u16 x).wf = true) (d : Nat) :
    ∀ (k : Nat) (i left c re : Int), 0 ≤ i → i ≤ 50 → (50 - i).toNat = d → 2 * d + 6 ≤ k → 0 ≤ left → left ≤ w → w ≤ c → 0 ≤ re → (c - w) * w + re ≤ 1200 * (w - left) →
    wigwaglaw10_RenoRound.l0 k l true w left i c 2400 0 re = some true := by
  have wcap : ∀ c re left : Int, w ≤ c → 0 ≤ re → 0 ≤ left → (c - w) * w + re ≤ 1200 * (w - left) → Wd c ∧ Wd re := by
    intro c re left hc hr hl hi
    have hcw : 0 ≤ (c - w) * w := Int.mul_nonneg (by omega) (by omega)
    refine ⟨⟨by omega, ?_⟩, ⟨hr, by omega⟩⟩
    rcases Int.lt_or_le c 18446744073709551616 with hx | hx
    · exact hx
    · exfalso
      have := Int.mul_le_mul_of_nonneg_right (show 1201 ≤ c - w by omega) (show 0 ≤ w by omega)
      omega
  have last : ∀ (k : Nat) (left c re : Int), 0 ≤ left → left ≤ w → w ≤ c → 0 ≤ re → (c - w) * w + re ≤ 1200 * (w - left) →
      ((reno_Ack.f (k + 1) c 2400 0 re left 0 false).bind fun bt210 => ((reno_Ack.f (k + 1) w 2400 0 0 w 0 false).bind fun bt214 => (if true = true then (if bt210.1 ≤ (IntKind.u64.wrap (w + 1200)) then (if bt210.1 ≥ w then (if bt214.1 = (IntKind.u64.wrap (w + 1200)) then (some (bt214.2.2.2 == 0)) else (some false)) else (some false)) else (some false)) else (some false)))) = some true := by
    intro k left c re l0 l1 hc hr hi
    obtain ⟨wc, wr⟩ := wcap c re left hc hr l0 hi
    rw [ack_eq k wc wr ⟨l0, by omega⟩, ack_eq k (show Wd w from ⟨by omega, by omega⟩) zero_wd ⟨by omega, by omega⟩, wrapu_id (show Wd (w + 1200) from ⟨by omega, by omega⟩)]
    simp only [Option.bind_some, if_true]
    obtain ⟨c', re', e, a0, a1, _, _⟩ := round_ack hw hc hr ⟨l0, Int.le_refl _⟩ l1 hi
    rw [e]
    have once : ack w 2400 0 0 w 0 false = (w + 1200, 2400, 0, 0) := by
      unfold ack
      rw [if_neg (by simp), if_neg (by omega)]
      have e1 : smul w 1200 = 1200 * w := by unfold smul; rw [if_pos (by omega)]; omega
      have e2 : sadd 0 (1200 * w) = 1200 * w := by unfold sadd; rw [if_pos (by omega)]; omega
      rw [e1, e2, show max w 1 = w by omega, Int.mul_ediv_cancel _ (by omega), Int.mul_emod_left]
      have e3 : sadd w 1200 = w + 1200 := by unfold sadd; rw [if_pos (by omega)]
      rw [e3]
      unfold held
      rw [show min (max (w + 1200) 2400) 16777216 = w + 1200 by omega]
    rw [once]
    simp only
    rw [if_pos a1, if_pos a0, if_pos trivial]
    rfl
  induction d with
  | zero =>
    intro k i left c re i0 i1 hd hk l0 l1 hc hr hi
    obtain ⟨k, rfl⟩ : ∃ m, k = m + 2 := ⟨k - 2, by omega⟩
    simp only [wigwaglaw10_RenoRound.l0, wigwaglaw10_RenoRound.j1]
    obtain ⟨k, rfl⟩ : ∃ m, k = m + 1 := ⟨k - 1, by omega⟩
    rw [show decide (i < 50) = false by simp; omega]
    have := last k left c re l0 l1 hc hr hi
    split
    · rw [if_neg (by simp)]; exact this
    · rw [if_neg (by simp)]; exact this
  | succ d ih =>
    intro k i left c re i0 i1 hd hk l0 l1 hc hr hi
    obtain ⟨k, rfl⟩ : ∃ m, k = m + 2 := ⟨k - 2, by omega⟩
    simp only [wigwaglaw10_RenoRound.l0, wigwaglaw10_RenoRound.j1]
    obtain ⟨k, rfl⟩ : ∃ m, k = m + 1 := ⟨k - 1, by omega⟩
    by_cases hl : i < (l.length : Int)
    · rw [if_pos hl, show decide (i < 50) = true by simp; omega, if_pos rfl, if_pos i0, if_pos hl]
      have hp : 0 ≤ rd l i ∧ rd l i < 65536 := by
        unfold rd
        rw [List.getD_eq_getElem?_getD, List.getElem?_eq_getElem (by omega)]
        exact u16_of (h1 _ (List.getElem_mem _))
      generalize rd l i = p at hp
      obtain ⟨wc, wr⟩ := wcap c re left hc hr l0 hi
      rw [wrapu_id (show Wd p from ⟨hp.1, by omega⟩), mn_eq, ack_eq k wc wr ⟨by omega, by omega⟩, wrapu_id (show Wd (left - min p left) from ⟨by omega, by omega⟩), up i0 (by omega)]
      simp only [Option.bind_some]
      obtain ⟨c', re', e, a0, a1, a2, a3⟩ := round_ack (b := min p left) hw hc hr ⟨by omega, by omega⟩ l1 hi
      rw [e]
      exact ih (k + 1) (i + 1) (left - min p left) c' re' (by omega) (by omega) (by omega) (by omega) (by omega) (by omega) a0 a2 a3
    · rw [if_neg hl, if_neg (by simp)]
      exact last k left c re l0 l1 hc hr hi
theorem RenoRound : wigwaglaw10_RenoRound.Pure := by
  intro a l ha _ _ h1
  have ha := u32_of ha
  refine ⟨200, ?_⟩
  unfold wigwaglaw10_RenoRound.f
  rw [awake_eq 200 (by omega), wrapu_id (small ha), show Int.tmod a 1000000 = a % 1000000 from Int.tmod_eq_emod_of_nonneg ha.1, wrapu_id (show Wd (a % 1000000 + 2400) from ⟨by omega, by omega⟩)]
  simp only [Option.bind_some]
  exact round_loop (a % 1000000 + 2400) (by omega) l h1 50 200 0 _ _ 0 (by omega) (by omega) (by omega) (by omega) (by omega) (by omega) (by omega) (by omega) (by simp)
end Go.Proofs.Ytmajccpifkbdpaa.Pure
