/- What is taken, how much is under way and whether packets rise are the reference's. -/
import Derived.Test.YtfgmikhlplbmeaaXa
import Derived.Test.YtfgmikhlplbmeaaStmLedgerTakes
namespace Go.Proofs.Ytfgmikhlplbmeaa.Pure
open Go.RowKit Go.Proofs.Ytfgmikhlplbmeaa.P Go.Proofs.YtfgmikhlplbmeaaW.PrintWords Go.Proofs.YtfgmikhlplbmeaaW.PrintLast
set_option linter.unusedSectionVars false
set_option linter.unusedVariables false
theorem check_same (k : Nat) : ∀ (l : List S37) (i : Int), wigwagref09_Check.l0 k l i = ledger_Check.l0 k l i := by
  induction k with
  | zero => intro l i; rfl
  | succ k ih => intro l i; simp only [wigwagref09_Check.l0, ledger_Check.l0, ih]
def lt_ (a b : S37) : Prop := a.f0 < b.f0
instance (a b : S37) : Decidable (lt_ a b) := inferInstanceAs (Decidable (a.f0 < b.f0))
theorem pair_cons {x y : S37} {t : List S37} : (x :: y :: t).Pairwise lt_ ↔ lt_ x y ∧ (y :: t).Pairwise lt_ := by
  constructor
  · intro h
    obtain ⟨h1, h2⟩ := List.pairwise_cons.mp h
    exact ⟨h1 y (List.mem_cons_self ..), h2⟩
  · intro ⟨h1, h2⟩
    refine List.pairwise_cons.mpr ⟨?_, h2⟩
    intro z hz
    rcases List.mem_cons.mp hz with q | q
    · rw [q]; exact h1
    · have := (List.pairwise_cons.mp h2).1 z q
      unfold lt_ at *
      omega
theorem check_loop (l : List S37) (hn : l.length < 1000000) (d : Nat) : ∀ (j k : Nat), j + 1 + d = l.length → d + 1 ≤ k → ledger_Check.l0 k l ((j + 1 : Nat) : Int) = some (decide ((l.drop j).Pairwise lt_)) := by
  induction d with
  | zero =>
    intro j k hj hk
    obtain ⟨k, rfl⟩ : ∃ m, k = m + 1 := ⟨k - 1, by omega⟩
    have hjl : j < l.length := by omega
    rw [ledger_Check.l0, if_neg (by omega), List.drop_eq_getElem_cons hjl, List.drop_eq_nil_of_le (by omega)]
    simp
  | succ d ih =>
    intro j k hj hk
    obtain ⟨k, rfl⟩ : ∃ m, k = m + 1 := ⟨k - 1, by omega⟩
    have hjl : j + 1 < l.length := by omega
    have hjl0 : j < l.length := by omega
    have e := ih (j + 1) k (by omega) (by omega)
    rw [List.drop_eq_getElem_cons hjl] at e
    rw [ledger_Check.l0, if_pos (by omega), if_pos (by omega), dn hjl0 hn, if_pos (by omega), if_pos (by omega), rd_at hjl, rd_at hjl0, up hjl hn, e, List.drop_eq_getElem_cons hjl0, List.drop_eq_getElem_cons hjl]
    by_cases h : l[j + 1].f0 ≤ l[j].f0
    · rw [if_pos h]
      congr 1
      symm
      apply decide_eq_false
      intro q
      have := (pair_cons.mp q).1
      unfold lt_ at this
      omega
    · rw [if_neg h]
      congr 1
      apply decide_eq_decide.mpr
      rw [pair_cons]
      constructor
      · intro q; exact ⟨by unfold lt_; omega, q⟩
      · intro q; exact q.2
theorem check_eq {l : List S37} (hn : l.length < 1000000) {k : Nat} (hk : l.length + 1 ≤ k) : ledger_Check.f k l = some (decide (l.Pairwise lt_)) := by
  unfold ledger_Check.f
  cases l with
  | nil =>
    obtain ⟨k, rfl⟩ : ∃ m, k = m + 1 := ⟨k - 1, by simp at hk; omega⟩
    rw [ledger_Check.l0, if_neg (by simp)]
    simp
  | cons x t => exact check_loop (x :: t) hn t.length 0 k (by simp; omega) (by simp at hk; omega)
def flew (s : Int) (l : List S37) : Int := l.foldl (fun a x => sadd a x.f2) s
theorem flew_wd {l : List S37} (hl : ∀ x ∈ l, Ws x) : ∀ {s : Int}, Wd s → Wd (flew s l) := by
  induction l with
  | nil => intro s hs; exact hs
  | cons x t ih =>
    intro s hs
    exact ih (fun y hy => hl y (List.mem_cons_of_mem _ hy)) (sadd_wd hs (hl x (List.mem_cons_self ..)).z)
section
variable {l : List S37} (hl : ∀ x ∈ l, Ws x) (hn : l.length < 1000000)
include hl hn
theorem flight_loop (d : Nat) : ∀ (j : Nat) (s : Int) (k : Nat), Wd s → j + d = l.length → d + 1 ≤ k → ledger_Flight.l0 k s l (l.length : Int) (j : Int) = some (flew s (l.drop j)) := by
  induction d with
  | zero =>
    intro j s k hs hj hk
    obtain ⟨k, rfl⟩ : ∃ m, k = m + 1 := ⟨k - 1, by omega⟩
    rw [ledger_Flight.l0, if_neg (by omega), List.drop_eq_nil_of_le (by omega)]
    rfl
  | succ d ih =>
    intro j s k hs hj hk
    obtain ⟨k, rfl⟩ : ∃ m, k = m + 1 := ⟨k - 1, by omega⟩
    have hjl : j < l.length := by omega
    have hx := hl _ (List.getElem_mem hjl)
    rw [ledger_Flight.l0, if_pos (by omega), if_pos (by omega), if_pos (by omega), rd_at hjl, add_eq hs hx.z, up hjl hn, List.drop_eq_getElem_cons hjl]
    simp only [Option.bind_some]
    exact ih (j + 1) _ k (sadd_wd hs hx.z) (by omega) (by omega)
theorem flight_eq {k : Nat} (hk : l.length + 1 ≤ k) : ledger_Flight.f k l = some (flew 0 l) := by
  unfold ledger_Flight.f
  exact flight_loop hl hn l.length 0 0 k ⟨by omega, by omega⟩ (by omega) (by omega)
theorem rflight_loop (d : Nat) : ∀ (j : Nat) (s : Int) (k : Nat), Wd s → j + d = l.length → d + 1 ≤ k → wigwagref09_Flight.l0 k l s (j : Int) = some (flew s (l.drop j)) := by
  induction d with
  | zero =>
    intro j s k hs hj hk
    obtain ⟨k, rfl⟩ : ∃ m, k = m + 1 := ⟨k - 1, by omega⟩
    rw [wigwagref09_Flight.l0, if_neg (by omega), List.drop_eq_nil_of_le (by omega)]
    rfl
  | succ d ih =>
    intro j s k hs hj hk
    obtain ⟨k, rfl⟩ : ∃ m, k = m + 1 := ⟨k - 1, by omega⟩
    have hjl : j < l.length := by omega
    have hx := hl _ (List.getElem_mem hjl)
    rw [wigwagref09_Flight.l0, if_pos (by omega), if_pos (by omega), rd_at hjl, radd_eq hs hx.z, up hjl hn, List.drop_eq_getElem_cons hjl]
    simp only [Option.bind_some]
    exact ih (j + 1) _ k (sadd_wd hs hx.z) (by omega) (by omega)
theorem rflight_eq {k : Nat} (hk : l.length + 1 ≤ k) : wigwagref09_Flight.f k l = some (flew 0 l) := by
  unfold wigwagref09_Flight.f
  exact rflight_loop hl hn l.length 0 0 k ⟨by omega, by omega⟩ (by omega) (by omega)
end
theorem LedgerTakes : wigwaglaw09_LedgerTakes.Pure := by
  intro l s hl hx hs hy
  have hL : ∀ x ∈ l, Ws x := fun x h => ⟨wd_of (hx x h).1, wd_of (hx x h).2.1, wd_of (hx x h).2.2.1⟩
  refine ⟨1001, ?_⟩
  unfold wigwaglaw09_LedgerTakes.f
  rw [awake_eq 1001 (by omega), few_eq]
  simp only [Option.bind_some]
  by_cases hn : (l.length : Int) ≤ 50
  · rw [if_pos (by simpa using hn)]
    by_cases hm : (s.length : Int) > 50
    · rw [decide_eq_true hm, wigwaglaw09_LedgerTakes.j0, if_pos rfl]
    · have h1 := List.length_filter_le (taken s) l
      have h2 := List.length_filter_le (fun x => !taken s x) l
      rw [decide_eq_false hm, wigwaglaw09_LedgerTakes.j0, if_neg (by simp), take_eq hL (by omega) (show s.length < 1000000 by omega) (by omega), rtake_eq hL (by omega) (show s.length < 1000000 by omega) (by omega)]
      simp only [Option.bind_some]
      rw [same_eq (by omega) (by omega), same_eq (by omega) (by omega), check_eq (by omega) (by omega), show wigwagref09_Check.f 1000 l = some (decide (l.Pairwise lt_)) from (check_same 1000 l 1).trans (check_eq (by omega) (by omega)), flight_eq hL (by omega) (by omega), rflight_eq hL (by omega) (by omega)]
      simp
  · rw [if_neg (by simpa using hn), wigwaglaw09_LedgerTakes.j0, if_pos rfl]
end Go.Proofs.Ytfgmikhlplbmeaa.Pure
