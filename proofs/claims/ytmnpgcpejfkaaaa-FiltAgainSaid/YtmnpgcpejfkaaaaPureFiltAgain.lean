/- A sample that is put in twice is put in once: a push behind a push changes nothing. -/
import Derived.Test.YtmnpgcpejfkaaaaXa
import Derived.Test.YtmnpgcpejfkaaaaStmFiltAgain
namespace Go.Proofs.Ytmnpgcpejfkaaaa.Pure
open Go.RowKit Go.Proofs.Ytmnpgcpejfkaaaa.P Go.Proofs.YtmnpgcpejfkaaaaW.PrintWords Go.Proofs.YtmnpgcpejfkaaaaW.PrintLast
theorem push_again (g : Bool) (w : Int) (s : S25) (l : List S25) : push g w s (push g w s l) = push g w s l := by
  have h : keep g w s s = false := by unfold keep; simp
  unfold push
  rw [List.filter_append, List.filter_filter]
  simp [h]
theorem FiltAgain : wigwaglaw02_FiltAgain.Pure := by
  intro l w s0 s1 hl hx hw h0 h1
  have hL : ∀ x ∈ l, Ws x := fun x h => ⟨wd_of (hx x h).1, wd_of (hx x h).2⟩
  have hS : Ws ⟨s0, s1⟩ := ⟨wd_of h0, wd_of h1⟩
  have hW := wd_of hw
  refine ⟨1000, ?_⟩
  unfold wigwaglaw02_FiltAgain.f
  rw [awake_eq 1000 (by omega)]
  simp only [Option.bind_some]
  by_cases hn : (l.length : Int) > 300
  · rw [if_pos hn]
  · rw [if_neg hn]
    have hn' : l.length ≤ 300 := by omega
    have l1 := @push_len true w ⟨s0, s1⟩ l
    have l2 := @push_len false w ⟨s0, s1⟩ l
    rw [pmax (s := ⟨s0, s1⟩) hL (by omega) hW (show l.length + 1 ≤ 1000 by omega), pmin (s := ⟨s0, s1⟩) hL (by omega) hW (show l.length + 1 ≤ 1000 by omega)]
    simp only [Option.bind_some]
    rw [pmax (s := ⟨s0, s1⟩) (push_ws hL hS) (by omega) hW (by omega), pmin (s := ⟨s0, s1⟩) (push_ws hL hS) (by omega) hW (by omega), push_again, push_again]
    simp only [Option.bind_some]
    rw [same_eq (by omega) (by omega), same_eq (by omega) (by omega)]
    simp
end Go.Proofs.Ytmnpgcpejfkaaaa.Pure
