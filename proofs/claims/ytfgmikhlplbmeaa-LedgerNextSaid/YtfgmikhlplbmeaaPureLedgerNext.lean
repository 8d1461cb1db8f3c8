/- The time that is told is that of one that is left behind, and of none sooner. Where it is nought, none that is left is behind. -/
import Derived.Test.YtfgmikhlplbmeaaXa
import Derived.Test.YtfgmikhlplbmeaaStmLedgerNext
namespace Go.Proofs.Ytfgmikhlplbmeaa.Pure
open Go.RowKit Go.Proofs.Ytfgmikhlplbmeaa.P Go.Proofs.YtfgmikhlplbmeaaW.PrintWords Go.Proofs.YtfgmikhlplbmeaaW.PrintLast
set_option linter.unusedSectionVars false
set_option linter.unusedVariables false
theorem LedgerNext : wigwaglaw09_LedgerNext.Pure := by
  intro l nx now late hl hx hnx hnow hlate
  have hL : ∀ x ∈ l, Ws x := fun x h => ⟨wd_of (hx x h).1, wd_of (hx x h).2.1, wd_of (hx x h).2.2.1⟩
  have hla := wd_of hlate
  obtain ⟨b0, b1⟩ := wd_of hnow
  refine ⟨1000, ?_⟩
  unfold wigwaglaw09_LedgerNext.f
  rw [awake_eq 1000 (by omega), few_eq]
  simp only [Option.bind_some]
  by_cases hn : (l.length : Int) ≤ 50
  · rw [if_pos (by simpa using hn), lost_eq hL (by omega) hla (by omega)]
    simp only [Option.bind_some]
    have h4 := List.length_filter_le (fun x => !gone nx now late x) l
    have inl : ∀ x ∈ (l.filter (fun x => !gone nx now late x)).filter (behind nx), x ∈ l ∧ behind nx x = true ∧ ¬ sadd x.f0 4 ≤ nx ∧ sadd x.f1 late > now := by
      intro x h
      obtain ⟨h1, h2⟩ := List.mem_filter.mp h
      obtain ⟨h3, h5⟩ := List.mem_filter.mp h1
      unfold gone at h5
      rw [h2] at h5
      simp at h5
      exact ⟨h3, h2, by omega, by omega⟩
    by_cases he : (l.filter (fun x => !gone nx now late x)).filter (behind nx) = []
    · rw [he, wh, if_pos rfl, lost_eq hL (by omega) hla (by omega)]
      simp only [Option.bind_some]
      have eq : l.filter (gone nx 18446744073709551615 late) = l.filter (gone nx now late) := by
        apply List.filter_congr
        intro x hm
        have hle : sadd x.f1 late ≤ 18446744073709551615 := by have := sadd_wd (hL x hm).a hla; obtain ⟨_, _⟩ := this; omega
        cases hb : behind nx x with
        | false => unfold gone; rw [hb, Bool.false_and, Bool.false_and]
        | true =>
          cases hg : gone nx now late x with
          | true => unfold gone at *; rw [hb]; simp [hle]
          | false =>
            have : x ∈ (l.filter (fun x => !gone nx now late x)).filter (behind nx) := List.mem_filter.mpr ⟨List.mem_filter.mpr ⟨hm, by simp [hg]⟩, hb⟩
            rw [he] at this
            simp at this
      rw [if_pos trivial, eq, if_pos rfl]
    · obtain ⟨w1, x, hxm, w2⟩ := wh_first (late := late) he
      obtain ⟨x1, x2, x3, x4⟩ := inl x hxm
      have hwd := sadd_wd (hL x x1).a hla
      have hmem := (List.mem_filter.mp hxm).1
      generalize hw : wh late ((l.filter (fun x => !gone nx now late x)).filter (behind nx)) 0 false = w at w1 w2
      obtain ⟨g0, g1⟩ := hwd
      have hw1 : IntKind.u64.wrap (w - 1) = w - 1 := wrapu_id ⟨by omega, by omega⟩
      rw [if_neg (by omega), hw1, lost_eq (filter_ws hL (fun x => !gone nx now late x)) (by omega) hla (by omega), lost_eq (filter_ws hL (fun x => !gone nx now late x)) (by omega) hla (by omega)]
      simp only [Option.bind_some]
      have none_ : (l.filter (fun x => !gone nx now late x)).filter (gone nx (w - 1) late) = [] := by
        rw [List.filter_eq_nil_iff]
        intro y hy hg
        cases hb : behind nx y with
        | false => unfold gone at hg; rw [hb] at hg; simp at hg
        | true =>
          have hy2 := List.mem_filter.mpr ⟨hy, hb⟩
          obtain ⟨_, _, y3, _⟩ := inl y hy2
          have := w1 y hy2
          unfold gone at hg
          rw [hb] at hg
          simp at hg
          omega
      have some_ : x ∈ (l.filter (fun x => !gone nx now late x)).filter (gone nx w late) := by
        refine List.mem_filter.mpr ⟨hmem, ?_⟩
        unfold gone
        rw [x2]
        simp
        omega
      have pos := List.length_pos_of_mem some_
      rw [if_pos trivial, if_pos (by omega), none_, if_pos (show (([] : List S37).length : Int) = 0 from rfl), decide_eq_true (by omega)]
  · rw [if_neg (by simpa using hn)]
end Go.Proofs.Ytfgmikhlplbmeaa.Pure
