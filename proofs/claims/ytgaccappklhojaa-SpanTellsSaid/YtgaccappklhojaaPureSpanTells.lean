/- Whether spans are a set, a number is in, what is added, cut, in both, last, and how many there are, is what the document says: for at most fifty spans. -/
import Derived.Test.YtgaccappklhojaaXa
import Derived.Test.YtgaccappklhojaaStmSpanTells
namespace Go.Proofs.Ytgaccappklhojaa.Pure
open Go.RowKit Go.Proofs.Ytgaccappklhojaa.P Go.Proofs.YtgaccappklhojaaW.PrintWords Go.Proofs.YtgaccappklhojaaW.PrintLast
theorem bd_of {l : List Sp} (hx : ∀ x ∈ l, (Lit.int .u64 x.f0).wf = true ∧ (Lit.int .u64 x.f1).wf = true) : ∀ s ∈ l, 0 ≤ s.f0 ∧ s.f1 ≤ ((18446744073709551615 : Nat) : Int) := fun s hs => by
  have h0 := wd_of (hx s hs).1
  have h1 := wd_of (hx s hs).2
  unfold Wd at h0 h1
  omega
theorem bothL_self {l : List Sp} (h : Ok l) : bothL l l (l.length + l.length) = l := by
  obtain ⟨o, m⟩ := bothL_ok _ h h (Nat.le_refl _)
  exact ok_ext o h (fun n => (m n).trans and_self_iff)
set_option maxHeartbeats 1000000 in
theorem SpanTells : wigwaglaw07_SpanTells.Pure := by
  intro l0 l1 a b n m hl hx hl1 hx1 ha hb hn hm
  have bd0 := bd_of hx
  refine ⟨4000, ?_⟩
  unfold wigwaglaw07_SpanTells.f
  rw [awake_eq 4000 (by decide), Option.bind_some, few_eq, Option.bind_some]
  by_cases c0 : (l0.length : Int) ≤ 50
  · rw [decide_eq_true c0, if_pos rfl, few_eq, Option.bind_some]
    by_cases c1 : (l1.length : Int) ≤ 50
    · have p1 : l0.length * (l1.length + 3) ≤ 50 * 53 := Nat.mul_le_mul (by omega) (by omega)
      have p2 : l0.length * l1.length ≤ 50 * 50 := Nat.mul_le_mul (by omega) (by omega)
      have p3 := addS_len l0 a b
      have p4 := cutS_len l0 a b
      have p5 := bothL_len (l0.length + l1.length) l0 l1
      have p6 : (lastL l0 m).length ≤ l0.length := by unfold lastL; rw [List.length_drop]; omega
      rw [decide_eq_true c1, wigwaglaw07_SpanTells.j0, if_neg (by simp), check_eq (by omega) (by omega), Option.bind_some, rcheck_eq (by omega) (by omega), Option.bind_some, if_neg (by simp), has_eq (by omega) n (by omega), Option.bind_some, rhas_eq (by omega) n (by omega), Option.bind_some, bne_self_eq_false, wigwaglaw07_SpanTells.j1, if_neg (by simp), check_eq (by omega) (by omega), Option.bind_some]
      by_cases o0 : Ok l0
      · rw [decide_eq_true o0, if_pos rfl, check_eq (by omega) (by omega), Option.bind_some]
        by_cases o1 : Ok l1
        · rw [decide_eq_true o1, wigwaglaw07_SpanTells.j2, if_neg (by simp), add_eq (by omega) (by omega), Option.bind_some, rfadd_eq (by omega) o0 a b (by omega), Option.bind_some, same_eq (by omega) (by omega), Option.bind_some,
            cut_eq (by omega), Option.bind_some, rfcut_eq (by omega) o0 (fun s hs => (bd0 s hs).1) (fun s hs => (bd0 s hs).2) a b (by omega), Option.bind_some, same_eq (by omega) (by omega), Option.bind_some,
            both_eq (by omega) (by omega), Option.bind_some, rfboth_eq (by omega) (by omega) o0 o1 (by omega) (by omega), Option.bind_some, same_eq (by omega) (by omega), Option.bind_some,
            last_eq (by omega), Option.bind_some, rlast_eq (by omega), Option.bind_some, same_eq (by omega) (by omega), Option.bind_some, if_pos rfl, if_pos (by simp), if_pos (by simp), if_pos (by simp), if_pos (by simp), size_eq (by omega) (by omega), Option.bind_some, rsize_eq (by omega) (by omega), Option.bind_some, beq_self_eq_true]
        · rw [decide_eq_false o1, wigwaglaw07_SpanTells.j2, if_pos (by simp)]
      · rw [decide_eq_false o0, if_neg (by simp), wigwaglaw07_SpanTells.j2, if_pos rfl]
    · rw [decide_eq_false c1, wigwaglaw07_SpanTells.j0, if_pos (by simp)]
  · rw [decide_eq_false c0, if_neg (by simp), wigwaglaw07_SpanTells.j0, if_pos rfl]
end Go.Proofs.Ytgaccappklhojaa.Pure
