/- What was taken is taken again, and of the rest nothing; what is left is left at the same time, with the same next time. -/
import Derived.Test.YtfgmikhlplbmeaaXa
import Derived.Test.YtfgmikhlplbmeaaStmLedgerAgain
namespace Go.Proofs.Ytfgmikhlplbmeaa.Pure
open Go.RowKit Go.Proofs.Ytfgmikhlplbmeaa.P Go.Proofs.YtfgmikhlplbmeaaW.PrintWords Go.Proofs.YtfgmikhlplbmeaaW.PrintLast
set_option linter.unusedSectionVars false
set_option linter.unusedVariables false
theorem again (p : S37 → Bool) (l : List S37) : (l.filter p).filter p = l.filter p := by rw [List.filter_filter]; simp
theorem again_not (p : S37 → Bool) (l : List S37) : (l.filter p).filter (fun x => !p x) = [] := by
  rw [List.filter_filter, List.filter_eq_nil_iff]
  intro x _
  cases p x <;> simp
theorem not_again (p : S37 → Bool) (l : List S37) : (l.filter (fun x => !p x)).filter p = [] := by
  rw [List.filter_filter, List.filter_eq_nil_iff]
  intro x _
  cases p x <;> simp
theorem LedgerAgain : wigwaglaw09_LedgerAgain.Pure := by
  intro l s nx now late hl hx hs hy hnx hnow hlate
  have hL : ∀ x ∈ l, Ws x := fun x h => ⟨wd_of (hx x h).1, wd_of (hx x h).2.1, wd_of (hx x h).2.2.1⟩
  have hla := wd_of hlate
  refine ⟨1001, ?_⟩
  unfold wigwaglaw09_LedgerAgain.f
  rw [awake_eq 1001 (by omega), few_eq]
  simp only [Option.bind_some]
  by_cases hn : (l.length : Int) ≤ 50
  · rw [if_pos (by simpa using hn)]
    by_cases hm : (s.length : Int) > 50
    · rw [decide_eq_true hm, wigwaglaw09_LedgerAgain.j0, if_pos rfl]
    · have h1 := List.length_filter_le (taken s) l
      have h2 := List.length_filter_le (fun x => !taken s x) l
      have h3 := List.length_filter_le (gone nx now late) l
      have h4 := List.length_filter_le (fun x => !gone nx now late x) l
      rw [decide_eq_false hm, wigwaglaw09_LedgerAgain.j0, if_neg (by simp), take_eq hL (by omega) (show s.length < 1000000 by omega) (by omega), lost_eq hL (by omega) hla (by omega)]
      simp only [Option.bind_some]
      rw [take_eq (filter_ws hL (taken s)) (by omega) (show s.length < 1000000 by omega) (by omega), take_eq (filter_ws hL (fun x => !taken s x)) (by omega) (show s.length < 1000000 by omega) (by omega), lost_eq (filter_ws hL (gone nx now late)) (by omega) hla (by omega), lost_eq (filter_ws hL (fun x => !gone nx now late x)) (by omega) hla (by omega)]
      simp only [Option.bind_some]
      rw [again, again_not, not_again, again (fun x => !taken s x), not_again, again (fun x => !gone nx now late x), again, again_not]
      simp
  · rw [if_neg (by simpa using hn), wigwaglaw09_LedgerAgain.j0, if_pos rfl]
end Go.Proofs.Ytfgmikhlplbmeaa.Pure
