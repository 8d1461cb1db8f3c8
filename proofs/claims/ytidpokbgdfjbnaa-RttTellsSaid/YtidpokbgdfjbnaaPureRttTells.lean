/- What is known behind any answer more, and how long a sender waits, are what the document says. No condition. -/
import Derived.Test.YtidpokbgdfjbnaaXa
import Derived.Test.YtidpokbgdfjbnaaStmRttTells
namespace Go.Proofs.Ytidpokbgdfjbnaa.Pure
open Go.RowKit Go.Proofs.Ytidpokbgdfjbnaa.P Go.Proofs.YtidpokbgdfjbnaaW.PrintWords Go.Proofs.YtidpokbgdfjbnaaW.PrintLast
set_option linter.unusedVariables false
theorem RttTells : wigwaglaw08_RttTells.Pure := by
  intro has la mi sm va sample delay most count h1 h2 h3 h4 h5 h6 h7 _
  have h1 := wd_of h1; have h2 := wd_of h2; have h3 := wd_of h3; have h4 := wd_of h4; have h5 := wd_of h5; have h6 := wd_of h6; have h7 := wd_of h7
  refine ⟨40, ?_⟩
  unfold wigwaglaw08_RttTells.f
  rw [awake_eq 40 (by omega), update_eq 39 has h2 h3 h4 h5 h6 h7, rupdate_eq 39 has h2 h3 h4 h5 h6 h7, timeout_eq 38 has h3 h4 h7, rtimeout_eq 10 has h3 h4 h7, late_eq has h1 h3, rlate_eq has h1 h3]
  simp
end Go.Proofs.Ytidpokbgdfjbnaa.Pure
