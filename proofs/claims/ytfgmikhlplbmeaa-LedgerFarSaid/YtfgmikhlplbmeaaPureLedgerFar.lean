/- At the time nought nothing is late, as a lateness is at least one: only what is three behind the last is lost. Up to 2^62 four more do not wrap. -/
import Derived.Test.YtfgmikhlplbmeaaXa
import Derived.Test.YtfgmikhlplbmeaaStmLedgerFar
namespace Go.Proofs.Ytfgmikhlplbmeaa.Pure
open Go.RowKit Go.Proofs.Ytfgmikhlplbmeaa.P Go.Proofs.YtfgmikhlplbmeaaW.PrintWords Go.Proofs.YtfgmikhlplbmeaaW.PrintLast
set_option linter.unusedSectionVars false
set_option linter.unusedVariables false
section
variable (nx : Int)
theorem far0 {l m : List S37} (hl : ∀ x ∈ l, Ws x) (hm : ∀ x ∈ m, Ws x) (hn : l.length < 1000000) (hmn : m.length < 1000000) (h1 : ∀ x ∈ l, ¬ sadd x.f0 4 > nx) (h2 : ∀ x ∈ m, ¬ sadd x.f0 4 ≤ nx) :
    (∀ (d j k : Nat), j + d = m.length → d + 1 ≤ k → wigwaglaw09_LedgerFar.l1 k nx true m (j : Int) = some true) ∧
    (∀ (d j k : Nat), j + d = l.length → d + m.length + 2 ≤ k → wigwaglaw09_LedgerFar.l0 k nx true l m (j : Int) = some true) := by
  have one : ∀ (d j k : Nat), j + d = m.length → d + 1 ≤ k → wigwaglaw09_LedgerFar.l1 k nx true m (j : Int) = some true := by
    intro d
    induction d with
    | zero =>
      intro j k hj hk
      obtain ⟨k, rfl⟩ : ∃ m, k = m + 1 := ⟨k - 1, by omega⟩
      rw [wigwaglaw09_LedgerFar.l1, if_neg (by omega)]
    | succ d ih =>
      intro j k hj hk
      obtain ⟨k, rfl⟩ : ∃ m, k = m + 1 := ⟨k - 1, by omega⟩
      have hjl : j < m.length := by omega
      have hx := hm _ (List.getElem_mem hjl)
      rw [wigwaglaw09_LedgerFar.l1, if_pos (by omega), if_pos (by omega), rd_at hjl, radd_eq hx.n four_wd]
      simp only [Option.bind_some]
      rw [if_neg (h2 _ (List.getElem_mem hjl)), up hjl hmn]
      exact ih (j + 1) k (by omega) (by omega)
  refine ⟨one, ?_⟩
  intro d
  induction d with
  | zero =>
    intro j k hj hk
    obtain ⟨k, rfl⟩ : ∃ m, k = m + 1 := ⟨k - 1, by omega⟩
    rw [wigwaglaw09_LedgerFar.l0, if_neg (by omega)]
    exact one m.length 0 k (by omega) (by omega)
  | succ d ih =>
    intro j k hj hk
    obtain ⟨k, rfl⟩ : ∃ m, k = m + 1 := ⟨k - 1, by omega⟩
    have hjl : j < l.length := by omega
    have hx := hl _ (List.getElem_mem hjl)
    rw [wigwaglaw09_LedgerFar.l0, if_pos (by omega), if_pos (by omega), rd_at hjl, radd_eq hx.n four_wd]
    simp only [Option.bind_some]
    rw [if_neg (h1 _ (List.getElem_mem hjl)), up hjl hn]
    exact ih (j + 1) k (by omega) (by omega)
end
theorem gone_far {x : S37} (hx : Ws x) {nx late : Int} (hla : Wd late) (h0 : ¬ late = 0) (hnx : nx ≤ 4611686018427387904) : gone nx 0 late x = decide (sadd x.f0 4 ≤ nx) := by
  obtain ⟨⟨a0, a1⟩, ⟨b0, b1⟩, _⟩ := hx
  obtain ⟨c0, c1⟩ := hla
  have e1 : decide (sadd x.f1 late ≤ 0) = false := by apply decide_eq_false; unfold sadd; split <;> omega
  unfold gone behind
  rw [e1, Bool.or_false]
  by_cases h : sadd x.f0 4 ≤ nx
  · have h2 : sadd x.f0 1 < nx := by unfold sadd at *; split at h <;> split <;> omega
    rw [decide_eq_true h, decide_eq_true h2]
    rfl
  · rw [decide_eq_false h, Bool.and_false]
theorem LedgerFar : wigwaglaw09_LedgerFar.Pure := by
  intro l nx late hl hx hnx hlate
  have hL : ∀ x ∈ l, Ws x := fun x h => ⟨wd_of (hx x h).1, wd_of (hx x h).2.1, wd_of (hx x h).2.2.1⟩
  have hla := wd_of hlate
  refine ⟨1001, ?_⟩
  have skip : wigwaglaw09_LedgerFar.j0 1001 l nx late true true = some true := by rw [wigwaglaw09_LedgerFar.j0, if_pos rfl]
  unfold wigwaglaw09_LedgerFar.f
  rw [awake_eq 1001 (by omega), few_eq]
  simp only [Option.bind_some]
  by_cases hn : (l.length : Int) ≤ 50
  · rw [if_pos (by simpa using hn)]
    by_cases h0 : late = 0
    · rw [if_pos h0, skip]
    · rw [if_neg h0]
      by_cases h1 : nx > 4611686018427387904
      · rw [decide_eq_true h1, skip]
      · rw [decide_eq_false h1, wigwaglaw09_LedgerFar.j0, if_neg (by simp), lost_eq hL (by omega) hla (by omega)]
        simp only [Option.bind_some]
        have l1 := List.length_filter_le (gone nx 0 late) l
        have l2 := List.length_filter_le (fun x => !gone nx 0 late x) l
        refine (far0 nx (filter_ws hL _) (filter_ws hL _) (by omega) (by omega) ?_ ?_).2 _ 0 1000 (Nat.zero_add _) (by omega)
        · intro x hm
          obtain ⟨m1, m2⟩ := List.mem_filter.mp hm
          rw [gone_far (hL x m1) hla h0 (by omega)] at m2
          have := of_decide_eq_true m2
          omega
        · intro x hm
          obtain ⟨m1, m2⟩ := List.mem_filter.mp hm
          rw [gone_far (hL x m1) hla h0 (by omega)] at m2
          simp at m2
          omega
  · rw [if_neg (by simpa using hn), skip]
end Go.Proofs.Ytfgmikhlplbmeaa.Pure
