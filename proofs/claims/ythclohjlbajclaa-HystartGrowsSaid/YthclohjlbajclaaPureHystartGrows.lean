/- A window grows by no more than the bytes that came, least where a slow start is finished. No condition. -/
import Derived.Test.YthclohjlbajclaaXa
import Derived.Test.YthclohjlbajclaaStmHystartGrows
namespace Go.Proofs.Ythclohjlbajclaa.Pure
open Go.RowKit Go.Proofs.Ythclohjlbajclaa.P Go.Proofs.YthclohjlbajclaaW.PrintWords Go.Proofs.YthclohjlbajclaaW.PrintLast
theorem HystartGrows : wigwaglaw11_HystartGrows.Pure := by
  intro p e lm nm ct bs rn bytes hp he hlm hnm hct hbs hrn hb
  have hb := wd_of hb
  refine ⟨60, ?_⟩
  unfold wigwaglaw11_HystartGrows.f
  rw [awake_eq 60 (by omega)]
  simp only [Option.bind_some, hystart_Grow.f, hystart_Finish.f]
  rw [quarter hb]
  obtain ⟨b0, b1⟩ := hb
  by_cases h0 : p = 0
  · simp [h0]
  · by_cases h1 : p = 1
    · simp [h1]; omega
    · simp [h0, h1]; omega
end Go.Proofs.Ythclohjlbajclaa.Pure
