/- Limits in either order, told twice, and bytes used at once or in two parts. Up to 2^62 the sum of two parts does not wrap. -/
import Derived.Test.YtgfmmbgljbabbaaXa
import Derived.Test.YtgfmmbgljbabbaaStmCreditRaises
namespace Go.Proofs.Ytgfmmbgljbabbaa.Pure
open Go.RowKit Go.Proofs.Ytgfmmbgljbabbaa.P Go.Proofs.YtgfmmbgljbabbaaW.PrintWords Go.Proofs.YtgfmmbgljbabbaaW.PrintLast
theorem mx_comm (a b c : Int) : mx (mx a b) c = mx (mx a c) b := by simp only [mx_eq]; omega
theorem mx_again (a b c : Int) : mx (mx (mx a b) c) b = mx (mx a b) c := by simp only [mx_eq]; omega
theorem raises_end (L U X a1 a3 a4 : Int) : wigwaglaw19_CreditRaises.j0 1 a1 a3 a4 true true L U X U X U = some true := by
  simp [wigwaglaw19_CreditRaises.j0]
theorem raises_use {L U X a1 a3 a4 : Int} (hX : mx X a1 = X) (hL : Wd L) (hU : Wd U) (h3 : Wd a3) (h4 : Wd a4) (c3 : a3 ≤ 4611686018427387904) (c4 : a4 ≤ 4611686018427387904) (hul : U ≤ L) :
    wigwaglaw19_CreditRaises.j0 1 a1 a3 a4 true false L U X U X U = some true := by
  have l0 := hL.1; have l1 := hL.2; have u0 := hU.1; have u1 := hU.2; have x0 := h3.1; have y0 := h4.1
  have hs : ssub L U = L - U := by unfold ssub; rw [if_neg (by omega)]
  have hw : Wd (a3 + a4) := ⟨by omega, by omega⟩
  simp only [wigwaglaw19_CreditRaises.j0, credit_Raise.f, hX]
  rw [if_neg (by simp), wrapu_id hw, use_eq hL hU h3, hs]
  simp only [Option.bind_some]
  rw [use_eq hL hU hw, hs]
  by_cases q : a3 > L - U
  · rw [if_pos q, if_pos (show a3 + a4 > L - U by omega)]
    simp only [Option.bind_some]
    rw [use_eq hL hU h4]
    simp
  · rw [if_neg q]
    have e1 : sadd U a3 = U + a3 := by unfold sadd; rw [if_pos (by omega)]
    rw [e1]
    simp only [Option.bind_some]
    rw [use_eq hL (show Wd (U + a3) from ⟨by omega, by omega⟩) h4]
    have e2 : ssub L (U + a3) = L - (U + a3) := by unfold ssub; rw [if_neg (by omega)]
    rw [e2]
    by_cases q2 : a4 > L - (U + a3)
    · rw [if_pos q2, if_pos (show a3 + a4 > L - U by omega)]
      simp
    · have e3 : sadd (U + a3) a4 = U + a3 + a4 := by unfold sadd; rw [if_pos (by omega)]
      have e4 : sadd U (a3 + a4) = U + a3 + a4 := by unfold sadd; rw [if_pos (by omega)]; omega
      rw [if_neg q2, if_neg (show ¬ a3 + a4 > L - U by omega), e3, e4]
      simp
theorem CreditRaises : wigwaglaw19_CreditRaises.Pure := by
  intro L U a1 a2 a3 a4 hL hU h1 h2 h3 h4
  refine ⟨1, ?_⟩
  unfold wigwaglaw19_CreditRaises.f
  rw [awake_eq]
  simp only [Option.bind_some, credit_Raise.f]
  rw [mx_comm L a2 a1]
  by_cases q3 : a3 > 4611686018427387904
  · rw [if_pos q3, raises_end]
  · rw [if_neg q3]
    by_cases q4 : a4 > 4611686018427387904
    · rw [if_pos q4, raises_end]
    · rw [if_neg q4]
      by_cases q : U > L
      · rw [decide_eq_true q, raises_end]
      · rw [decide_eq_false q, raises_use (mx_again L a1 a2) (wd_of hL) (wd_of hU) (wd_of h3) (wd_of h4) (by omega) (by omega) (by omega)]
end Go.Proofs.Ytgfmmbgljbabbaa.Pure
