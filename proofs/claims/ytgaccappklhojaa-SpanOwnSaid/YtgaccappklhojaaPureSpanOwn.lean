/- Sets that are given stay as they were, whatever is done to answers: for at most fifty spans. -/
import Derived.Test.YtgaccappklhojaaXa
import Derived.Test.YtgaccappklhojaaStmSpanOwn
namespace Go.Proofs.Ytgaccappklhojaa.Pure
open Go.RowKit Go.Proofs.Ytgaccappklhojaa.P Go.Proofs.YtgaccappklhojaaW.PrintWords Go.Proofs.YtgaccappklhojaaW.PrintLast
set_option linter.unusedVariables false
section
variable {l : List Sp} (hl : l.length ≤ 50)
include hl
theorem own_l2 (d : Nat) : ∀ (z : List Sp) (j k : Nat), j + d = z.length → z.length ≤ 1000 → d + 60 ≤ k → wigwaglaw07_SpanOwn.l2 k l true l z (j : Int) = some true := by
  induction d with
  | zero =>
    intro z j k hj hz hk
    obtain ⟨k, rfl⟩ : ∃ m, k = m + 1 := ⟨k - 1, by omega⟩
    rw [wigwaglaw07_SpanOwn.l2, if_neg (by omega), same_eq (by omega) (by omega), Option.bind_some, if_pos rfl, decide_eq_true rfl]
  | succ d ih =>
    intro z j k hj hz hk
    obtain ⟨k, rfl⟩ : ∃ m, k = m + 1 := ⟨k - 1, by omega⟩
    rw [wigwaglaw07_SpanOwn.l2, if_pos (by omega), if_pos (by omega), sp_up (show j < z.length by omega) (by omega)]
    exact ih _ (j + 1) k (by rw [List.length_set]; omega) (by rw [List.length_set]; omega) (by omega)
theorem own_l1 (d : Nat) : ∀ (y z : List Sp) (j k : Nat), j + d = y.length → y.length ≤ 1000 → z.length ≤ 1000 → d + z.length + 70 ≤ k → wigwaglaw07_SpanOwn.l1 k l true l y z (j : Int) = some true := by
  induction d with
  | zero =>
    intro y z j k hj hy hz hk
    obtain ⟨k, rfl⟩ : ∃ m, k = m + 1 := ⟨k - 1, by omega⟩
    rw [wigwaglaw07_SpanOwn.l1, if_neg (by omega)]
    exact own_l2 hl z.length z 0 k (by omega) hz (by omega)
  | succ d ih =>
    intro y z j k hj hy hz hk
    obtain ⟨k, rfl⟩ : ∃ m, k = m + 1 := ⟨k - 1, by omega⟩
    rw [wigwaglaw07_SpanOwn.l1, if_pos (by omega), if_pos (by omega), sp_up (show j < y.length by omega) (by omega)]
    exact ih _ z (j + 1) k (by rw [List.length_set]; omega) (by rw [List.length_set]; omega) hz (by omega)
theorem own_l0 (d : Nat) : ∀ (x y z : List Sp) (j k : Nat), j + d = x.length → x.length ≤ 1000 → y.length ≤ 1000 → z.length ≤ 1000 → d + y.length + z.length + 80 ≤ k → wigwaglaw07_SpanOwn.l0 k l true l x y z (j : Int) = some true := by
  induction d with
  | zero =>
    intro x y z j k hj hx hy hz hk
    obtain ⟨k, rfl⟩ : ∃ m, k = m + 1 := ⟨k - 1, by omega⟩
    rw [wigwaglaw07_SpanOwn.l0, if_neg (by omega)]
    exact own_l1 hl y.length y z 0 k (by omega) hy hz (by omega)
  | succ d ih =>
    intro x y z j k hj hx hy hz hk
    obtain ⟨k, rfl⟩ : ∃ m, k = m + 1 := ⟨k - 1, by omega⟩
    rw [wigwaglaw07_SpanOwn.l0, if_pos (by omega), if_pos (by omega), sp_up (show j < x.length by omega) (by omega)]
    exact ih _ y z (j + 1) k (by rw [List.length_set]; omega) (by rw [List.length_set]; omega) hy hz (by omega)
end
theorem SpanOwn : wigwaglaw07_SpanOwn.Pure := by
  intro l0 a b n hl hx ha hb hn
  refine ⟨1000, ?_⟩
  unfold wigwaglaw07_SpanOwn.f
  rw [awake_eq 1000 (by decide), Option.bind_some, few_eq, Option.bind_some]
  by_cases c0 : (l0.length : Int) ≤ 50
  · rw [decide_eq_true c0, if_pos rfl, check_eq (by omega) (by omega), Option.bind_some]
    by_cases o0 : Ok l0
    · have p1 := addS_len l0 a b
      have p2 := cutS_len l0 a b
      have p6 : (lastL l0 n).length ≤ l0.length := by unfold lastL; rw [List.length_drop]; omega
      rw [decide_eq_true o0, wigwaglaw07_SpanOwn.j0, if_neg (by simp), Option.bind_some, if_pos (by simp; omega), Option.bind_some, List.nil_append, add_eq (by omega) (by omega), Option.bind_some, cut_eq (by omega), Option.bind_some, last_eq (by omega), Option.bind_some]
      exact own_l0 (by omega) (addS l0 a b).length _ _ _ 0 999 (by omega) (by omega) (by omega) (by omega) (by omega)
    · rw [decide_eq_false o0, wigwaglaw07_SpanOwn.j0, if_pos (by simp)]
  · rw [decide_eq_false c0, if_neg (by simp), wigwaglaw07_SpanOwn.j0, if_pos rfl]
end Go.Proofs.Ytgaccappklhojaa.Pure
