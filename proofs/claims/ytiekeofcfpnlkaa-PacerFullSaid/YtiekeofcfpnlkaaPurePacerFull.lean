/- A bucket that waits long enough is full, whatever was in it, and stays so. No condition. -/
import Derived.Test.YtiekeofcfpnlkaaXa
import Derived.Test.YtiekeofcfpnlkaaPx6
namespace Go.Proofs.Ytiekeofcfpnlkaa.Pure
open Go.RowKit Go.Proofs.Ytiekeofcfpnlkaa.P Go.Proofs.YtiekeofcfpnlkaaW.PrintWords Go.Proofs.YtiekeofcfpnlkaaW.PrintLast
set_option linter.unusedVariables false
theorem full_fill {at_ tok rest now rate burst : Int} (hlt : at_ < now) (ht : 0 ≤ tok) (hr : 0 ≤ rest) (hrate : 0 ≤ rate) (hb : burst < 4294967296) (h : burst ≤ tok ∨ burst * 1000 ≤ rate * (now - at_)) : fill at_ tok rest now rate burst = (now, burst, 0) := by
  unfold fill
  have hp : 0 ≤ rate * (now - at_) := Int.mul_nonneg hrate (by omega)
  rw [if_neg (by omega), if_pos]
  unfold sadd smul
  generalize rate * (now - at_) = p at h hp
  (repeat' split) <;> omega
theorem PacerFull : wigwaglaw16_PacerFull.Pure := by
  intro tok rest rate burst more h1 h2 h3 h4 h5
  have h1 := u32_of h1; have h2 := u16_of h2; have h3 := u32_of h3; have h4 := u32_of h4; have h5 := u32_of h5
  unfold wigwaglaw16_PacerFull.f
  rw [awake_eq]
  simp only [Option.bind_some]
  by_cases h0 : rate = 0
  · rw [if_pos h0]
  · rw [if_neg h0, wrapu_id (small h3), if_neg h0, wrapu_id (small h1), wrapu_id (show Wd rest from ⟨h2.1, by omega⟩), wrapu_id (small h4), wrapu_id (small h5), wrapu_id (show Wd (burst * 1000) from ⟨by omega, by omega⟩)]
    have hq : Int.tdiv (burst * 1000) rate = burst * 1000 / rate := Int.tdiv_eq_ediv_of_nonneg (by omega)
    have hq0 : 0 ≤ burst * 1000 / rate := Int.ediv_nonneg (by omega) (by omega)
    have hq1 : burst * 1000 / rate ≤ burst * 1000 := Int.ediv_le_self _ (by omega)
    have hdm := Int.mul_ediv_add_emod (burst * 1000) rate
    have hmod := Int.emod_lt_of_pos (burst * 1000) (show 0 < rate by omega)
    rw [hq]
    have hmul : ∀ x, 0 ≤ x → burst * 1000 ≤ rate * (burst * 1000 / rate + 1 + x) := by
      intro x hx
      have e : rate * (burst * 1000 / rate + 1 + x) = rate * (burst * 1000 / rate) + rate + rate * x := by rw [Int.mul_add, Int.mul_add, Int.mul_one]
      have := Int.mul_nonneg h3.1 hx
      omega
    generalize burst * 1000 / rate = q at hq0 hq1 hmul
    rw [wrapu_id (show Wd q from ⟨hq0, by omega⟩), wrapu_id (show Wd (q + 1) from ⟨by omega, by omega⟩), wrapu_id (show Wd (q + 1 + more) from ⟨by omega, by omega⟩), wrapu_id (show Wd (7 + (q + 1 + more)) from ⟨by omega, by omega⟩), wrapu_id (show Wd (8 + (q + 1 + more)) from ⟨by omega, by omega⟩), wrapu_id (show Wd (8 + (q + 1 + more) + more) from ⟨by omega, by omega⟩)]
    have hrest : Int.tmod rest 1000 = rest % 1000 := Int.tmod_eq_emod_of_nonneg h2.1
    rw [hrest, fill_eq (show Wd 7 from ⟨by omega, by omega⟩) (small h1) (show Wd (rest % 1000) from ⟨by omega, by omega⟩) (show Wd (7 + (q + 1 + more)) from ⟨by omega, by omega⟩) (small h3)]
    have e1 : fill 7 tok (rest % 1000) (7 + (q + 1 + more)) rate burst = (7 + (q + 1 + more), burst, 0) :=
      full_fill (by omega) h1.1 (by omega) h3.1 h4.2 (.inr (by rw [show 7 + (q + 1 + more) - 7 = q + 1 + more by omega]; exact hmul more h5.1))
    rw [e1]
    simp only [Option.bind_some]
    rw [fill_eq (show Wd (7 + (q + 1 + more)) from ⟨by omega, by omega⟩) (small h4) (show Wd 0 from ⟨by omega, by omega⟩) (show Wd (8 + (q + 1 + more) + more) from ⟨by omega, by omega⟩) (small h3)]
    have e2 : fill (7 + (q + 1 + more)) burst 0 (8 + (q + 1 + more) + more) rate burst = (8 + (q + 1 + more) + more, burst, 0) :=
      full_fill (by omega) h4.1 (by omega) h3.1 h4.2 (.inl (Int.le_refl _))
    rw [e2]
    simp
end Go.Proofs.Ytiekeofcfpnlkaa.Pure
