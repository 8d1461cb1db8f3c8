/- A number is in what was added to, in what was cut, and in both, just as the sets say; and these are sets: for at most fifty spans. -/
import Derived.Test.YtgaccappklhojaaXa
import Derived.Test.YtgaccappklhojaaStmSpanHolds
namespace Go.Proofs.Ytgaccappklhojaa.Pure
open Go.RowKit Go.Proofs.Ytgaccappklhojaa.P Go.Proofs.YtgaccappklhojaaW.PrintWords Go.Proofs.YtgaccappklhojaaW.PrintLast
section
variable {l0 l1 : List Sp} {a b n : Int} (c0 : l0.length ≤ 50) (c1 : l1.length ≤ 50) (o0 : Ok l0) (o1 : Ok l1)
include c0 c1 o0 o1
theorem holds_j1 {k : Nat} (hk : 500 ≤ k) (x10 : Bool) (hin : x10 = decide (a ≤ n ∧ n < b)) : wigwaglaw07_SpanHolds.j1 k l0 l1 n true x10 a b = some true := by
  obtain ⟨k, rfl⟩ : ∃ m, k = m + 4 := ⟨k - 4, by omega⟩
  have p3 := addS_len l0 a b
  have p4 := cutS_len l0 a b
  have p5 := bothL_len (l0.length + l1.length) l0 l1
  obtain ⟨ox, mx_⟩ := addS_ok (a := a) (b := b) o0
  obtain ⟨oy, my⟩ := cutS_ok (a := a) (b := b) o0
  obtain ⟨oz, mz⟩ := bothL_ok (l0.length + l1.length) o0 o1 (Nat.le_refl _)
  have fin : ∀ k, 490 ≤ k → wigwaglaw07_SpanHolds.j4 k true (addS l0 a b) (cutS l0 a b) (bothL l0 l1 (l0.length + l1.length)) true true true = some true := by
    intro k hk
    obtain ⟨k, rfl⟩ : ∃ m, k = m + 1 := ⟨k - 1, by omega⟩
    rw [wigwaglaw07_SpanHolds.j4, if_pos rfl, if_pos rfl, if_pos rfl, if_pos rfl, check_eq (by omega) (by omega), Option.bind_some, decide_eq_true ox, if_pos rfl, check_eq (by omega) (by omega), Option.bind_some, decide_eq_true oy, if_pos rfl, check_eq (by omega) (by omega), Option.bind_some, decide_eq_true oz]
  have t3 : ∀ k, 491 ≤ k → wigwaglaw07_SpanHolds.j3 k l0 l1 n true (addS l0 a b) (cutS l0 a b) (bothL l0 l1 (l0.length + l1.length)) true true = some true := by
    intro k hk
    obtain ⟨k, rfl⟩ : ∃ m, k = m + 1 := ⟨k - 1, by omega⟩
    rw [wigwaglaw07_SpanHolds.j3, has_eq (by omega) n (by omega), Option.bind_some, has_eq (by omega) n (by omega), Option.bind_some]
    by_cases h : Mem n l0
    · rw [decide_eq_true h, if_pos rfl, has_eq (by omega) n (by omega), Option.bind_some]
      rw [show (decide (Mem n (bothL l0 l1 (l0.length + l1.length))) == decide (Mem n l1)) = true by
        rw [beq_iff_eq]; exact decide_eq_decide.mpr ((mz n).trans ⟨fun q => q.2, fun q => ⟨h, q⟩⟩)]
      exact fin k (by omega)
    · rw [decide_eq_false h, if_neg (by simp), decide_eq_false (p := Mem n (bothL l0 l1 (l0.length + l1.length))) (fun q => h ((mz n).mp q).1)]
      exact fin k (by omega)
  have t2 : ∀ k, 492 ≤ k → wigwaglaw07_SpanHolds.j2 k l0 l1 n true x10 (addS l0 a b) (cutS l0 a b) (bothL l0 l1 (l0.length + l1.length)) true = some true := by
    intro k hk
    obtain ⟨k, rfl⟩ : ∃ m, k = m + 1 := ⟨k - 1, by omega⟩
    rw [wigwaglaw07_SpanHolds.j2, has_eq (by omega) n (by omega), Option.bind_some, has_eq (by omega) n (by omega), Option.bind_some]
    by_cases h : Mem n l0
    · rw [decide_eq_true h, if_pos rfl]
      rw [show (decide (Mem n (cutS l0 a b)) == !x10) = true by
        rw [beq_iff_eq, hin, ← decide_not]; exact decide_eq_decide.mpr ((my n).trans ⟨fun q => q.2, fun q => ⟨h, q⟩⟩)]
      exact t3 k (by omega)
    · rw [decide_eq_false h, if_neg (by simp), decide_eq_false (p := Mem n (cutS l0 a b)) (fun q => h ((my n).mp q).1)]
      exact t3 k (by omega)
  rw [wigwaglaw07_SpanHolds.j1, add_eq (by omega) (by omega), Option.bind_some, cut_eq (by omega), Option.bind_some, both_eq (by omega) (by omega), Option.bind_some, has_eq (by omega) n (by omega), Option.bind_some, has_eq (by omega) n (by omega), Option.bind_some]
  by_cases h : Mem n l0
  · rw [decide_eq_true h, if_pos rfl, decide_eq_true ((mx_ n).mpr (.inl h))]
    exact t2 _ (by omega)
  · rw [decide_eq_false h, if_neg (by simp)]
    rw [show (decide (Mem n (addS l0 a b)) == x10) = true by
      rw [beq_iff_eq, hin]; exact decide_eq_decide.mpr ((mx_ n).trans ⟨fun q => q.resolve_left h, .inr⟩)]
    exact t2 _ (by omega)
end
theorem SpanHolds : wigwaglaw07_SpanHolds.Pure := by
  intro l0 l1 a b n hl hx hl1 hx1 ha hb hn
  refine ⟨1000, ?_⟩
  unfold wigwaglaw07_SpanHolds.f
  rw [awake_eq 1000 (by decide), Option.bind_some, few_eq, Option.bind_some]
  by_cases c0 : (l0.length : Int) ≤ 50
  · rw [decide_eq_true c0, if_pos rfl, few_eq, Option.bind_some]
    by_cases c1 : (l1.length : Int) ≤ 50
    · rw [decide_eq_true c1, if_pos rfl, check_eq (by omega) (by omega), Option.bind_some]
      by_cases o0 : Ok l0
      · rw [decide_eq_true o0, if_pos rfl, check_eq (by omega) (by omega), Option.bind_some]
        by_cases o1 : Ok l1
        · rw [decide_eq_true o1, wigwaglaw07_SpanHolds.j0, if_neg (by simp)]
          by_cases h : a ≤ n
          · rw [if_pos h]
            exact holds_j1 (by omega) (by omega) o0 o1 (by omega) _ (decide_eq_decide.mpr ⟨fun q => ⟨h, q⟩, fun q => q.2⟩)
          · rw [if_neg h]
            exact holds_j1 (by omega) (by omega) o0 o1 (by omega) _ (decide_eq_false (fun q => h q.1)).symm
        · rw [decide_eq_false o1, wigwaglaw07_SpanHolds.j0, if_pos (by simp)]
      · rw [decide_eq_false o0, if_neg (by simp), wigwaglaw07_SpanHolds.j0, if_pos rfl]
    · rw [decide_eq_false c1, if_neg (by simp), wigwaglaw07_SpanHolds.j0, if_pos rfl]
  · rw [decide_eq_false c0, if_neg (by simp), wigwaglaw07_SpanHolds.j0, if_pos rfl]
end Go.Proofs.Ytgaccappklhojaa.Pure
