/- A sender waits no shorter than the smooth time and the most delay; a packet is late no sooner than the latest time; longer delays never make the smooth time longer. No condition. -/
import Derived.Test.YtidpokbgdfjbnaaXa
import Derived.Test.YtidpokbgdfjbnaaPx9
namespace Go.Proofs.Ytidpokbgdfjbnaa.Pure
open Go.RowKit Go.Proofs.Ytidpokbgdfjbnaa.P Go.Proofs.YtidpokbgdfjbnaaW.PrintWords Go.Proofs.YtidpokbgdfjbnaaW.PrintLast
set_option linter.unusedVariables false
theorem u32_of {x : Int} (h : (Lit.int .u32 x).wf = true) : 0 ≤ x ∧ x < 4294967296 := by
  simp [Lit.wf, IntKind.min, IntKind.max, IntKind.signed, IntKind.bits] at h
  exact ⟨by omega, by omega⟩
theorem small {x : Int} (h : 0 ≤ x ∧ x < 4294967296) : Wd x := ⟨h.1, by omega⟩
theorem zero_wd : Wd 0 := ⟨by omega, by omega⟩
theorem RttLong : wigwaglaw08_RttLong.Pure := by
  intro a b delay more most ha hb hd hm ho
  have ha := u32_of ha; have hb := u32_of hb; have hd := u32_of hd; have hm := u32_of hm; have ho := u32_of ho
  refine ⟨40, ?_⟩
  unfold wigwaglaw08_RttLong.f
  rw [awake_eq 40 (by omega), wrapu_id (small ha), wrapu_id (small hb), wrapu_id (small hd), wrapu_id (small hm), wrapu_id (small ho)]
  have hdm : Wd (delay + more) := ⟨by omega, by omega⟩
  rw [wrapu_id hdm, update_eq 39 false zero_wd zero_wd zero_wd (small ha) zero_wd (small ho)]
  simp only [Option.bind_some, upd]
  rw [if_neg (by simp)]
  simp only
  have hva : Wd (a / 2) := ⟨by omega, by omega⟩
  rw [update_eq 39 true (small ha) (small ha) hva (small hb) (small hd) (small ho), update_eq 39 true (small ha) (small ha) hva (small hb) hdm (small ho)]
  simp only [Option.bind_some, upd, if_true]
  have hlx := less_wd (small ha) (small hb) (small hd) (small ho)
  have key : ∀ c : Bool, c = true → wigwaglaw08_RttLong.j0 40 most true (min a b) c true b (min a b) (smooth a (less a b delay most)) (vary a (a / 2) (less a b delay most)) = some true := by
    intro c hc
    subst hc
    simp only [wigwaglaw08_RttLong.j0, if_true]
    have hlx2 : less a b delay most ≤ b := by unfold less; split <;> omega
    have hlx0 := hlx.1
    generalize less a b delay most = x at hlx hlx2 hlx0
    have hs : smooth a x = a - a / 8 + x / 8 := by unfold smooth sadd; rw [if_pos (by omega)]
    have hsw : Wd (smooth a x) := by rw [hs]; exact ⟨by omega, by omega⟩
    have hv0 : vary a (a / 2) x = a / 2 - a / 2 / 4 + (max a x - min a x) / 4 := by unfold vary sadd; rw [if_pos (by omega)]
    have hv : Wd (vary a (a / 2) x) := by rw [hv0]; exact ⟨by omega, by omega⟩
    rw [wrapu_id (small ho), timeout_eq 37 true hsw hv (small ho), late_eq true (small hb) hsw]
    simp only [Option.bind_some]
    have hwt : smooth a x + most ≤ wait true (smooth a x) (vary a (a / 2) x) most 0 := by
      unfold wait wait0 rounds
      rw [if_pos rfl]
      have hq : smul 4 (vary a (a / 2) x) = 4 * vary a (a / 2) x := by unfold smul; rw [if_pos (by rw [hv0]; omega)]
      rw [hq]
      have hv1 : 0 ≤ vary a (a / 2) x := hv.1
      have hv2 : vary a (a / 2) x ≤ 8589934592 := by rw [hv0]; omega
      have hs2 : smooth a x ≤ 8589934592 := by rw [hs]; omega
      have hs1 := hsw.1
      generalize vary a (a / 2) x = v at hv1 hv2
      generalize smooth a x = s at hs2 hs1
      have e1 : sadd s (max (4 * v) 1) = s + max (4 * v) 1 := by unfold sadd; rw [if_pos (by omega)]
      have e2 : sadd (s + max (4 * v) 1) most = s + max (4 * v) 1 + most := by unfold sadd; rw [if_pos (by omega)]
      rw [e1, e2]
      show s + most ≤ smul _ 1
      unfold smul
      rw [if_pos (by omega)]
      omega
    have hwr : IntKind.u64.wrap (smooth a x + most) = smooth a x + most := wrapu_id ⟨by have := hsw.1; omega, by rw [hs]; omega⟩
    have hlate : b ≤ late true b (smooth a x) ∧ 1 ≤ late true b (smooth a x) := by
      unfold late
      rw [if_pos rfl]
      have hs2 : smooth a x ≤ 8589934592 := by rw [hs]; omega
      have hs1 := hsw.1
      generalize smooth a x = s at hs2 hs1
      unfold sadd
      rw [if_pos (by omega)]
      omega
    rw [hwr, if_pos hwt, if_pos hlate.1, if_pos hlate.2]
    simp
  by_cases hle : smooth a (less a b (delay + more) most) ≤ smooth a (less a b delay most)
  · rw [if_pos hle]
    simp only [mn_eq]
    exact key true rfl
  · rw [if_neg hle]
    simp only [mn_eq]
    have hsum : Wd (min a b + min (delay + more) most) := ⟨by omega, by omega⟩
    rw [wrapu_id hsum]
    refine key _ ?_
    have hlt : ¬ (b ≥ min a b + min (delay + more) most) := by
      intro hge
      apply hle
      have s1 : sadd (min a b) (min (delay + more) most) = min a b + min (delay + more) most := by unfold sadd; rw [if_pos (by omega)]
      have s2 : sadd (min a b) (min delay most) = min a b + min delay most := by unfold sadd; rw [if_pos (by omega)]
      unfold less
      rw [s1, s2, if_pos hge, if_pos (by omega)]
      unfold smooth sadd
      (repeat' split) <;> omega
    simp
    omega
end Go.Proofs.Ytidpokbgdfjbnaa.Pure
