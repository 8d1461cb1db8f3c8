/- A client's streams may be just if they are its own, and few enough. No condition. -/
import Derived.Test.YtgfmmbgljbabbaaXa
import Derived.Test.YtgfmmbgljbabbaaPx9
namespace Go.Proofs.Ytgfmmbgljbabbaa.Pure
open Go.RowKit Go.Proofs.Ytgfmmbgljbabbaa.P Go.Proofs.YtgfmmbgljbabbaaW.PrintWords Go.Proofs.YtgfmmbgljbabbaaW.PrintLast
theorem CreditStreams : wigwaglaw19_CreditStreams.Pure := by
  intro a b ha hb
  have wa := wd_of ha
  unfold wigwaglaw19_CreditStreams.f credit_Stream.f
  rw [awake_eq, quarter wa]
  simp only [Option.bind_some, if_true]
  by_cases h : Int.tmod a 4 = 0
  · simp only [if_pos h]
    by_cases h2 : a / 4 ≥ b
    · rw [if_pos h2]
      have : ¬ a / 4 < b := by omega
      simp [this, h]
    · rw [if_neg h2]
      have : a / 4 < b := by omega
      simp [this, h]
  · simp only [if_neg h]
    simp [h]
end Go.Proofs.Ytgfmmbgljbabbaa.Pure
