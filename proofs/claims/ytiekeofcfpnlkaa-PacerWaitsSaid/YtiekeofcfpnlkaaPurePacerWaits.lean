/- Behind the time that is told so many bytes are there, if they are no more than the burst, and a tick ahead of it they are not. No condition. -/
import Derived.Test.YtiekeofcfpnlkaaXa
import Derived.Test.YtiekeofcfpnlkaaPx11
namespace Go.Proofs.Ytiekeofcfpnlkaa.Pure
open Go.RowKit Go.Proofs.Ytiekeofcfpnlkaa.P Go.Proofs.YtiekeofcfpnlkaaW.PrintWords Go.Proofs.YtiekeofcfpnlkaaW.PrintLast
set_option linter.unusedVariables false
theorem wait_eq {a tok rest bytes rate : Int} (ht : 0 ≤ tok) (hb : bytes < 4294967296) (hlt : tok < bytes) (hr : 0 ≤ rest ∧ rest ≤ 999) (hq : 0 < rate ∧ rate < 4294967296) :
    ∃ w, pacer_Wait.f a tok rest bytes rate = some w ∧ 0 < w ∧ w ≤ 4294967296000 ∧ 1000 * (bytes - tok) - rest ≤ rate * w ∧ rate * (w - 1) < 1000 * (bytes - tok) - rest := by
  unfold pacer_Wait.f
  have w1 : Wd (bytes - tok) := ⟨by omega, by omega⟩
  have w2 : Wd rest := ⟨hr.1, by omega⟩
  rw [if_neg (by omega), if_neg (by omega), wrapu_id w1, mul_eq w1000 w1]
  simp only [Option.bind_some]
  have e1 : smul 1000 (bytes - tok) = 1000 * (bytes - tok) := by unfold smul; rw [if_pos (by omega)]
  rw [e1, sub_eq ⟨by omega, by omega⟩ w2]
  simp only [Option.bind_some]
  have e2 : ssub (1000 * (bytes - tok)) rest = 1000 * (bytes - tok) - rest := by unfold ssub; rw [if_neg (by omega)]
  rw [e2]
  generalize hn : 1000 * (bytes - tok) - rest = need
  have n0 : 0 < need := by omega
  have n1 : need ≤ 4294967296000 := by omega
  unfold pacer_Wait_1.f
  have q0 : 0 ≤ need / rate := Int.ediv_nonneg (by omega) (by omega)
  have q1 : need / rate ≤ need := Int.ediv_le_self _ (by omega)
  have hdm := Int.mul_ediv_add_emod need rate
  have hm0 := Int.emod_nonneg need (show rate ≠ 0 by omega)
  have hm1 := Int.emod_lt_of_pos need hq.1
  rw [if_neg (by omega), show Int.tmod need rate = need % rate from Int.tmod_eq_emod_of_nonneg (by omega), show Int.tdiv need rate = need / rate from Int.tdiv_eq_ediv_of_nonneg (by omega), wrapu_id (show Wd (need / rate) from ⟨q0, by omega⟩)]
  by_cases hp : need % rate > 0
  · rw [if_pos hp, wrapu_id (show Wd (need / rate + 1) from ⟨by omega, by omega⟩)]
    have q2 : need / rate < need := by
      rcases Int.lt_or_le (need / rate) need with h | h
      · exact h
      · exfalso
        have : need / rate = need := by omega
        rw [this] at hdm
        have : need ≤ rate * need := by
          have := Int.mul_le_mul_of_nonneg_right (show (1 : Int) ≤ rate by omega) (show 0 ≤ need by omega)
          omega
        omega
    refine ⟨need / rate + 1, rfl, by omega, by omega, ?_, ?_⟩
    · rw [Int.mul_add, Int.mul_one]; omega
    · rw [show need / rate + 1 - 1 = need / rate by omega]; omega
  · rw [if_neg hp]
    have hp' : need % rate = 0 := by omega
    have hqp : 0 < need / rate := by
      rcases Int.lt_or_le 0 (need / rate) with h | h
      · exact h
      · have : need / rate = 0 := by omega
        rw [this, Int.mul_zero] at hdm
        omega
    refine ⟨need / rate, rfl, hqp, by omega, by omega, ?_⟩
    rw [Int.mul_sub, Int.mul_one]; omega
theorem take_is {a t r n : Int} (h : n ≤ t) : ∃ q, pacer_Take.f a t r n = some q ∧ q.2.2.2 = true := by
  unfold pacer_Take.f
  rw [if_neg (by omega)]
  exact ⟨_, rfl, rfl⟩
theorem take_not {a t r n : Int} (h : t < n) : ∃ q, pacer_Take.f a t r n = some q ∧ q.2.2.2 = false := by
  unfold pacer_Take.f
  rw [if_pos (by omega)]
  exact ⟨_, rfl, rfl⟩
theorem PacerWaits : wigwaglaw16_PacerWaits.Pure := by
  intro tok rest at_ rate bytes burst h1 h2 h3 h4 h5 h6
  have h1 := u32_of h1; have h2 := u16_of h2; have h3 := u32_of h3; have h4 := u32_of h4; have h5 := u32_of h5; have h6 := u32_of h6
  refine ⟨5, ?_⟩
  unfold wigwaglaw16_PacerWaits.f
  rw [awake_eq, wrapu_id (small h1), wrapu_id (small h3), wrapu_id (show Wd rest from ⟨h2.1, by omega⟩), show Int.tmod rest 1000 = rest % 1000 from Int.tmod_eq_emod_of_nonneg h2.1]
  simp only [Option.bind_some]
  have hr : 0 ≤ rest % 1000 ∧ rest % 1000 ≤ 999 := by omega
  generalize rest % 1000 = r at hr
  have main : ∀ b : Bool, (b = false → bytes ≤ burst ∧ tok < burst ∧ 0 < rate) → wigwaglaw16_PacerWaits.j0 5 tok rate bytes burst true b at_ tok r = some true := by
    intro b hb
    simp only [wigwaglaw16_PacerWaits.j0]
    by_cases h : b = true
    · rw [if_pos h]
    · rw [if_neg h]
      obtain ⟨c1, c2, c3⟩ := hb (by simpa using h)
      rw [wrapu_id (small h5), wrapu_id (small h4), wrapu_id (small h6)]
      by_cases hle : bytes ≤ tok
      · have : pacer_Wait.f at_ tok r bytes rate = some 0 := by unfold pacer_Wait.f; rw [if_pos (by omega)]
        rw [this]
        simp only [Option.bind_some, if_true]
        rw [if_pos hle]
        rfl
      · obtain ⟨w, hw, w0, w1, g1, g2⟩ := wait_eq (a := at_) h1.1 h5.2 (by omega) hr ⟨c3, h4.2⟩
        rw [hw]
        simp only [Option.bind_some]
        have wr : Wd r := ⟨hr.1, by omega⟩
        rw [if_neg hle, wrapu_id (show Wd (at_ + w) from ⟨by omega, by omega⟩), wrapu_id (show Wd (at_ + w - 1) from ⟨by omega, by omega⟩), fill_eq (small h3) (small h1) wr ⟨by omega, by omega⟩ (small h4), fill_eq (small h3) (small h1) wr ⟨by omega, by omega⟩ (small h4)]
        simp only [Option.bind_some]
        have hm : rate * w = rate * (w - 1) + rate := by rw [Int.mul_sub, Int.mul_one]; omega
        have hp0 : 0 ≤ rate * (w - 1) := Int.mul_nonneg h4.1 (by omega)
        have f1 : bytes ≤ (fill at_ tok r (at_ + w) rate burst).2.1 := by
          unfold fill
          rw [if_neg (by omega), show at_ + w - at_ = w by omega]
          have e1 : smul rate w = rate * w := by unfold smul; rw [if_pos (by omega)]
          rw [e1]
          generalize rate * w = p at g1 hm
          generalize rate * (w - 1) = p' at g2 hm hp0
          have e2 : sadd r p = r + p := by unfold sadd; rw [if_pos (by omega)]
          rw [e2]
          have e3 : sadd tok ((r + p) / 1000) = tok + (r + p) / 1000 := by unfold sadd; rw [if_pos (by omega)]
          rw [e3]
          split
          · exact c1
          · show bytes ≤ tok + (r + p) / 1000
            omega
        have f2 : (fill at_ tok r (at_ + w - 1) rate burst).2.1 < bytes := by
          unfold fill
          by_cases hz : at_ + w - 1 ≤ at_
          · rw [if_pos hz]
            show tok < bytes
            omega
          · rw [if_neg hz, show at_ + w - 1 - at_ = w - 1 by omega]
            have e1 : smul rate (w - 1) = rate * (w - 1) := by unfold smul; rw [if_pos (by omega)]
            rw [e1]
            generalize rate * (w - 1) = p at g2 hp0
            have e2 : sadd r p = r + p := by unfold sadd; rw [if_pos (by omega)]
            rw [e2]
            have e3 : sadd tok ((r + p) / 1000) = tok + (r + p) / 1000 := by unfold sadd; rw [if_pos (by omega)]
            rw [e3, if_neg (by omega)]
            show tok + (r + p) / 1000 < bytes
            omega
        obtain ⟨q1, e1, k1⟩ := take_is (a := (fill at_ tok r (at_ + w) rate burst).1) (r := (fill at_ tok r (at_ + w) rate burst).2.2) f1
        obtain ⟨q2, e2, k2⟩ := take_not (a := (fill at_ tok r (at_ + w - 1) rate burst).1) (r := (fill at_ tok r (at_ + w - 1) rate burst).2.2) f2
        rw [e1, e2]
        simp only [Option.bind_some, if_true]
        rw [if_pos (show w > 0 by omega), k1, k2]
        rfl
  by_cases c1 : bytes > burst
  · rw [if_pos c1]; exact main _ (by simp)
  · rw [if_neg c1]
    by_cases c2 : tok ≥ burst
    · rw [if_pos c2]; exact main _ (by simp)
    · rw [if_neg c2]
      exact main _ (fun h => ⟨by omega, by omega, by simp at h; omega⟩)
end Go.Proofs.Ytiekeofcfpnlkaa.Pure
