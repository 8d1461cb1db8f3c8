/- Behind a push the sample is the last, and all ahead of it are beyond its value. -/
import Derived.Test.YtmnpgcpejfkaaaaXa
import Derived.Test.YtmnpgcpejfkaaaaStmFiltFalls
namespace Go.Proofs.Ytmnpgcpejfkaaaa.Pure
set_option linter.unusedSectionVars false
open Go.RowKit Go.Proofs.Ytmnpgcpejfkaaaa.P Go.Proofs.YtmnpgcpejfkaaaaW.PrintWords Go.Proofs.YtmnpgcpejfkaaaaW.PrintLast
section
variable (l f g : List S25) (s : S25) (hf : ∀ x ∈ f, x.f1 > s.f1) (hg : ∀ x ∈ g, x.f1 < s.f1) (hl : l.length < 1000000) (hfn : f.length < 1000) (hgn : g.length < 1000)
include hf hg hl hfn hgn
theorem falls1 (d : Nat) : ∀ (j k : Nat), j + d = g.length → d + l.length + 3 ≤ k → wigwaglaw02_FiltFalls.l1 k l true l (f ++ [s]) (g ++ [s]) (j : Int) s.f0 s.f1 = some true := by
  induction d with
  | zero =>
    intro j k hj hk
    obtain ⟨k, rfl⟩ : ∃ m, k = m + 1 := ⟨k - 1, by omega⟩
    have e : wrap64 (((g ++ [s]).length : Int) - 1) = (g.length : Int) := by simp; unfold wrap64; omega
    rw [wigwaglaw02_FiltFalls.l1, e, if_neg (by omega), if_pos (by simp), if_pos (by simp), same_eq hl (by omega)]
    simp
  | succ d ih =>
    intro j k hj hk
    obtain ⟨k, rfl⟩ : ∃ m, k = m + 1 := ⟨k - 1, by omega⟩
    have e : wrap64 (((g ++ [s]).length : Int) - 1) = (g.length : Int) := by simp; unfold wrap64; omega
    have hjg : j < g.length := by omega
    have hjl : j < (g ++ [s]).length := by simp; omega
    have hv : (g ++ [s])[j].f1 < s.f1 := by rw [List.getElem_append_left hjg]; exact hg _ (List.getElem_mem hjg)
    rw [wigwaglaw02_FiltFalls.l1, e, if_pos (by omega), if_pos (by omega), if_pos (by omega), rd_at hjl, if_neg (by omega), up hjg (by omega)]
    exact ih (j + 1) k (by omega) (by omega)
theorem falls0 (d : Nat) : ∀ (j k : Nat), j + d = f.length → d + g.length + l.length + 6 ≤ k → wigwaglaw02_FiltFalls.l0 k l true l (f ++ [s]) (g ++ [s]) (j : Int) s.f0 s.f1 = some true := by
  induction d with
  | zero =>
    intro j k hj hk
    obtain ⟨k, rfl⟩ : ∃ m, k = m + 1 := ⟨k - 1, by omega⟩
    have e : wrap64 (((f ++ [s]).length : Int) - 1) = (f.length : Int) := by simp; unfold wrap64; omega
    rw [wigwaglaw02_FiltFalls.l0, e, if_neg (by omega)]
    exact falls1 l f g s hf hg hl hfn hgn g.length 0 k (by omega) (by omega)
  | succ d ih =>
    intro j k hj hk
    obtain ⟨k, rfl⟩ : ∃ m, k = m + 1 := ⟨k - 1, by omega⟩
    have e : wrap64 (((f ++ [s]).length : Int) - 1) = (f.length : Int) := by simp; unfold wrap64; omega
    have hjg : j < f.length := by omega
    have hjl : j < (f ++ [s]).length := by simp; omega
    have hv : (f ++ [s])[j].f1 > s.f1 := by rw [List.getElem_append_left hjg]; exact hf _ (List.getElem_mem hjg)
    rw [wigwaglaw02_FiltFalls.l0, e, if_pos (by omega), if_pos (by omega), if_pos (by omega), rd_at hjl, if_neg (by omega), up hjg (by omega)]
    exact ih (j + 1) k (by omega) (by omega)
end
theorem last_at (f : List S25) (s : S25) (h : f.length < 1000) : rd_T25 (f ++ [s]) (wrap64 (((f ++ [s]).length : Int) - 1)) = s := by
  have e : wrap64 (((f ++ [s]).length : Int) - 1) = (f.length : Int) := by simp; unfold wrap64; omega
  rw [e, rd_at (by simp)]
  simp
theorem last_in (f : List S25) (s : S25) (h : f.length < 1000) : 0 ≤ wrap64 (((f ++ [s]).length : Int) - 1) ∧ wrap64 (((f ++ [s]).length : Int) - 1) < ((f ++ [s]).length : Int) := by
  have e : wrap64 (((f ++ [s]).length : Int) - 1) = (f.length : Int) := by simp; unfold wrap64; omega
  rw [e]; simp; omega
theorem FiltFalls : wigwaglaw02_FiltFalls.Pure := by
  intro l w s0 s1 hl hx hw h0 h1
  have hL : ∀ x ∈ l, Ws x := fun x h => ⟨wd_of (hx x h).1, wd_of (hx x h).2⟩
  have hW := wd_of hw
  refine ⟨2000, ?_⟩
  unfold wigwaglaw02_FiltFalls.f
  rw [awake_eq 2000 (by omega)]
  simp only [Option.bind_some]
  by_cases hn : (l.length : Int) > 300
  · rw [if_pos hn]
  · rw [if_neg hn]
    have hn' : l.length ≤ 300 := by omega
    rw [if_pos (by simp; omega), List.nil_append, pmax (s := ⟨s0, s1⟩) hL (by omega) hW (show l.length + 1 ≤ 2000 by omega), pmin (s := ⟨s0, s1⟩) hL (by omega) hW (show l.length + 1 ≤ 2000 by omega)]
    simp only [Option.bind_some]
    unfold push
    have hf : ∀ x ∈ l.filter (keep true w ⟨s0, s1⟩), x.f1 > s1 := by
      intro x h
      have := (List.mem_filter.mp h).2
      unfold keep vof at this
      simp at this
      exact this.2
    have hg : ∀ x ∈ l.filter (keep false w ⟨s0, s1⟩), x.f1 < s1 := by
      intro x h
      have := (List.mem_filter.mp h).2
      unfold keep vof at this
      simp at this
      omega
    have lf := List.length_filter_le (keep true w ⟨s0, s1⟩) l
    have lg := List.length_filter_le (keep false w ⟨s0, s1⟩) l
    generalize l.filter (keep true w ⟨s0, s1⟩) = f at hf lf
    generalize l.filter (keep false w ⟨s0, s1⟩) = g at hg lg
    have nf := last_in f ⟨s0, s1⟩ (by omega)
    have ng := last_in g ⟨s0, s1⟩ (by omega)
    rw [if_neg (by simp; omega), if_neg (by simp; omega), if_pos nf.1, if_pos nf.2, last_at f _ (by omega), if_neg (by simp), if_pos ng.1, if_pos ng.2, last_at g _ (by omega)]
    rw [show (!(s0 == s0) || !(s1 == s1)) = false by simp]
    rw [wigwaglaw02_FiltFalls.j0, if_neg (by simp)]
    exact falls0 l f g ⟨s0, s1⟩ hf hg (by omega) (by omega) (by omega) f.length 0 1999 (by omega) (by omega)
end Go.Proofs.Ytmnpgcpejfkaaaa.Pure
