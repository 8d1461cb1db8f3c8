/- The order of what is added does not matter, nor that it is added twice; what is added and cut out again was cut out at once: for at most fifty spans. -/
import Derived.Test.YtgaccappklhojaaXa
import Derived.Test.YtgaccappklhojaaStmSpanOrder
namespace Go.Proofs.Ytgaccappklhojaa.Pure
open Go.RowKit Go.Proofs.Ytgaccappklhojaa.P Go.Proofs.YtgaccappklhojaaW.PrintWords Go.Proofs.YtgaccappklhojaaW.PrintLast
set_option linter.unusedVariables false
theorem bd_of {l : List Sp} (hx : ∀ x ∈ l, (Lit.int .u64 x.f0).wf = true ∧ (Lit.int .u64 x.f1).wf = true) : ∀ s ∈ l, 0 ≤ s.f0 ∧ s.f1 ≤ ((18446744073709551615 : Nat) : Int) := fun s hs => by
  have h0 := wd_of (hx s hs).1
  have h1 := wd_of (hx s hs).2
  unfold Wd at h0 h1
  omega
theorem bothL_self {l : List Sp} (h : Ok l) : bothL l l (l.length + l.length) = l := by
  obtain ⟨o, m⟩ := bothL_ok _ h h (Nat.le_refl _)
  exact ok_ext o h (fun n => (m n).trans and_self_iff)
theorem SpanOrder : wigwaglaw07_SpanOrder.Pure := by
  intro l0 a b c d hl hx ha hb hc hd
  refine ⟨1000, ?_⟩
  unfold wigwaglaw07_SpanOrder.f
  rw [awake_eq 1000 (by decide), Option.bind_some, few_eq, Option.bind_some]
  by_cases c0 : (l0.length : Int) ≤ 50
  · rw [decide_eq_true c0, if_pos rfl, check_eq (by omega) (by omega), Option.bind_some]
    by_cases o0 : Ok l0
    · have p1 := addS_len l0 a b
      have p2 := addS_len l0 c d
      have p3 := addS_len (addS l0 a b) c d
      have p4 := addS_len (addS l0 c d) a b
      have p5 := addS_len (addS (addS l0 a b) c d) a b
      have p6 := cutS_len (addS l0 a b) a b
      have p7 := cutS_len l0 a b
      have p8 := bothL_len (l0.length + l0.length) l0 l0
      obtain ⟨o1, m1⟩ := addS_ok (a := a) (b := b) o0
      obtain ⟨o2, m2⟩ := addS_ok (a := c) (b := d) o0
      obtain ⟨o3, m3⟩ := addS_ok (a := c) (b := d) o1
      obtain ⟨o4, m4⟩ := addS_ok (a := a) (b := b) o2
      obtain ⟨o5, m5⟩ := addS_ok (a := a) (b := b) o3
      obtain ⟨o6, m6⟩ := cutS_ok (a := a) (b := b) o1
      obtain ⟨o7, m7⟩ := cutS_ok (a := a) (b := b) o0
      have e1 : addS (addS l0 a b) c d = addS (addS l0 c d) a b := ok_ext o3 o4 (fun n => by rw [m3 n, m1 n, m4 n, m2 n, or_right_comm])
      have e2 : addS (addS (addS l0 a b) c d) a b = addS (addS l0 a b) c d := ok_ext o5 o3 (fun n => by
        rw [m5 n, m3 n, m1 n]
        constructor
        · intro q; rcases q with q | q
          · exact q
          · exact .inl (.inr q)
        · exact .inl)
      have e3 : cutS (addS l0 a b) a b = cutS l0 a b := ok_ext o6 o7 (fun n => by
        rw [m6 n, m7 n, m1 n]
        constructor
        · intro ⟨q, r⟩; exact ⟨q.resolve_right r, r⟩
        · intro ⟨q, r⟩; exact ⟨.inl q, r⟩)
      have e4 := bothL_self o0
      rw [decide_eq_true o0, wigwaglaw07_SpanOrder.j0, if_neg (by simp), add_eq (by omega) (by omega), Option.bind_some, add_eq (by omega) (by omega), Option.bind_some, add_eq (by omega) (by omega), Option.bind_some, add_eq (by omega) (by omega), Option.bind_some, same_eq (by omega) (by omega), Option.bind_some, add_eq (by omega) (by omega), Option.bind_some, same_eq (by omega) (by omega), Option.bind_some, Option.bind_some, cut_eq (by omega), Option.bind_some, cut_eq (by omega), Option.bind_some, same_eq (by omega) (by omega), Option.bind_some, both_eq (by omega) (by omega), Option.bind_some, Option.bind_some, if_pos (by simp; omega), List.nil_append, same_eq (by omega) (by omega), Option.bind_some, decide_eq_true e1, decide_eq_true e2, decide_eq_true e3, decide_eq_true e4]
      rfl
    · rw [decide_eq_false o0, wigwaglaw07_SpanOrder.j0, if_pos (by simp)]
  · rw [decide_eq_false c0, if_neg (by simp), wigwaglaw07_SpanOrder.j0, if_pos rfl]
end Go.Proofs.Ytgaccappklhojaa.Pure
