/- The later, and the more came, the more is lost: the test only grows. Up to 2^62 the sums do not wrap. -/
import Derived.Test.YtfgmikhlplbmeaaXa
import Derived.Test.YtfgmikhlplbmeaaStmLedgerLater
namespace Go.Proofs.Ytfgmikhlplbmeaa.Pure
open Go.RowKit Go.Proofs.Ytfgmikhlplbmeaa.P Go.Proofs.YtfgmikhlplbmeaaW.PrintWords Go.Proofs.YtfgmikhlplbmeaaW.PrintLast
set_option linter.unusedSectionVars false
set_option linter.unusedVariables false
theorem more_len {p q : S37 → Bool} (h : ∀ x, p x = true → q x = true) (l : List S37) : (l.filter p).length ≤ (l.filter q).length := by
  induction l with
  | nil => simp
  | cons x t ih =>
    by_cases hp : p x = true
    · rw [List.filter_cons_of_pos hp, List.filter_cons_of_pos (h x hp)]
      simp only [List.length_cons]
      omega
    · rw [List.filter_cons_of_neg hp]
      by_cases hq : q x = true
      · rw [List.filter_cons_of_pos hq]
        simp only [List.length_cons]
        omega
      · rw [List.filter_cons_of_neg hq]
        exact ih
theorem gone_more {nx nx' now now' late : Int} (h1 : nx ≤ nx') (h2 : now ≤ now') (x : S37) (h : gone nx now late x = true) : gone nx' now' late x = true := by
  unfold gone behind at *
  simp only [Bool.and_eq_true, Bool.or_eq_true, decide_eq_true_eq] at *
  omega
theorem LedgerLater : wigwaglaw09_LedgerLater.Pure := by
  intro l nx now late more hl hx hnx hnow hlate hmore
  have hL : ∀ x ∈ l, Ws x := fun x h => ⟨wd_of (hx x h).1, wd_of (hx x h).2.1, wd_of (hx x h).2.2.1⟩
  have hla := wd_of hlate
  obtain ⟨a0, a1⟩ := wd_of hnx
  obtain ⟨b0, b1⟩ := wd_of hnow
  obtain ⟨c0, c1⟩ := wd_of hmore
  refine ⟨1001, ?_⟩
  have skip : wigwaglaw09_LedgerLater.j0 1001 l nx now late more true true = some true := by rw [wigwaglaw09_LedgerLater.j0, if_pos rfl]
  unfold wigwaglaw09_LedgerLater.f
  rw [awake_eq 1001 (by omega), few_eq]
  simp only [Option.bind_some]
  by_cases hn : (l.length : Int) ≤ 50
  · rw [if_pos (by simpa using hn)]
    by_cases h0 : now > 4611686018427387904
    · rw [if_pos h0, skip]
    · rw [if_neg h0]
      by_cases h1 : nx > 4611686018427387904
      · rw [if_pos h1, skip]
      · rw [if_neg h1]
        by_cases h2 : more > 4611686018427387904
        · rw [decide_eq_true h2, skip]
        · rw [decide_eq_false h2, wigwaglaw09_LedgerLater.j0, if_neg (by simp), wrapu_id (show Wd (now + more) from ⟨by omega, by omega⟩), wrapu_id (show Wd (nx + more) from ⟨by omega, by omega⟩), lost_eq hL (by omega) hla (by omega), lost_eq hL (by omega) hla (by omega), lost_eq hL (by omega) hla (by omega)]
          simp only [Option.bind_some]
          have g1 := more_len (gone_more (nx := nx) (nx' := nx) (now := now) (now' := now + more) (late := late) (by omega) (by omega)) l
          have g2 := more_len (gone_more (nx := nx) (nx' := nx + more) (now := now) (now' := now) (late := late) (by omega) (by omega)) l
          rw [if_pos trivial, if_pos (by omega), decide_eq_true (by omega)]
  · rw [if_neg (by simpa using hn), skip]
end Go.Proofs.Ytfgmikhlplbmeaa.Pure
