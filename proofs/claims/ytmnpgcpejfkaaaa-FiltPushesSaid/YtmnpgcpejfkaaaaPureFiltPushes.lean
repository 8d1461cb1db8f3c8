/- A push and the best value are the reference's. No condition but the law's own length. -/
import Derived.Test.YtmnpgcpejfkaaaaXa
import Derived.Test.YtmnpgcpejfkaaaaStmFiltPushes
namespace Go.Proofs.Ytmnpgcpejfkaaaa.Pure
open Go.RowKit Go.Proofs.Ytmnpgcpejfkaaaa.P Go.Proofs.YtmnpgcpejfkaaaaW.PrintWords Go.Proofs.YtmnpgcpejfkaaaaW.PrintLast
theorem FiltPushes : wigwaglaw02_FiltPushes.Pure := by
  intro l w s0 s1 hl hx hw h0 h1
  have hL : ∀ x ∈ l, Ws x := fun x h => ⟨wd_of (hx x h).1, wd_of (hx x h).2⟩
  have hW := wd_of hw
  refine ⟨1000, ?_⟩
  unfold wigwaglaw02_FiltPushes.f
  rw [awake_eq 1000 (by omega)]
  simp only [Option.bind_some]
  by_cases hn : (l.length : Int) > 300
  · rw [if_pos hn]
  · rw [if_neg hn]
    have hn' : l.length ≤ 300 := by omega
    have l1 := @push_len true w ⟨s0, s1⟩ l
    have l2 := @push_len false w ⟨s0, s1⟩ l
    rw [pmax (s := ⟨s0, s1⟩) hL (by omega) hW (show l.length + 1 ≤ 1000 by omega), pmin (s := ⟨s0, s1⟩) hL (by omega) hW (show l.length + 1 ≤ 1000 by omega), rmax (s := ⟨s0, s1⟩) hL (by omega) hW (show l.length + 1 ≤ 1000 by omega), rmin (s := ⟨s0, s1⟩) hL (by omega) hW (show l.length + 1 ≤ 1000 by omega)]
    simp only [Option.bind_some]
    rw [same_eq (by omega) (by omega), same_eq (by omega) (by omega), best_eq, rbest_eq]
    simp
end Go.Proofs.Ytmnpgcpejfkaaaa.Pure
