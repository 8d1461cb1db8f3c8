/- The last spans are the end of the set, no more than asked; and what is in both, of the set and them, is as many: for at most fifty spans. -/
import Derived.Test.YtgaccappklhojaaXa
import Derived.Test.YtgaccappklhojaaStmSpanTail
namespace Go.Proofs.Ytgaccappklhojaa.Pure
open Go.RowKit Go.Proofs.Ytgaccappklhojaa.P Go.Proofs.YtgaccappklhojaaW.PrintWords Go.Proofs.YtgaccappklhojaaW.PrintLast
set_option linter.unusedVariables false
theorem tail_j1 {l : List Sp} (hl : l.length ≤ 50) (ho : Ok l) {m : Nat} (hm : m ≤ l.length) {k : Nat} (hk : 500 ≤ k) : wigwaglaw07_SpanTail.j1 k l true (l.drop m) ((l.drop m).length : Int) false = some true := by
  obtain ⟨k, rfl⟩ : ∃ m, k = m + 1 := ⟨k - 1, by omega⟩
  have e1 : (l.drop m).length = l.length - m := List.length_drop ..
  have e2 : wrap64 ((l.length : Int) - ((l.drop m).length : Int)) = (m : Int) := by rw [e1]; unfold wrap64; omega
  have ot : Ok (l.drop m) := ⟨fun s hs => ho.1 s (List.mem_of_mem_drop hs), ho.2.sublist (List.drop_sublist ..)⟩
  have p5 := bothL_len (l.length + (l.drop m).length) l (l.drop m)
  obtain ⟨oz, mz⟩ := bothL_ok (l.length + (l.drop m).length) ho ot (Nat.le_refl _)
  have ez : bothL l (l.drop m) (l.length + (l.drop m).length) = l.drop m := ok_ext oz ot (fun n => (mz n).trans ⟨fun q => q.2, fun q => ⟨by obtain ⟨s, hs, r⟩ := q; exact ⟨s, List.mem_of_mem_drop hs, r⟩, q⟩⟩)
  rw [wigwaglaw07_SpanTail.j1, if_neg (by simp), Option.bind_some, e2, if_pos (by omega), if_pos (by omega), Option.bind_some, Int.toNat_natCast, if_pos (by simp; omega), List.nil_append, same_eq (by omega) (by omega), Option.bind_some, if_pos rfl, decide_eq_true rfl, if_pos rfl, check_eq (by omega) (by omega), Option.bind_some, decide_eq_true ot, if_pos rfl, both_eq (by omega) (by omega), Option.bind_some, ez, size_eq (by omega) (by omega), Option.bind_some, Option.bind_some, beq_self_eq_true]
theorem SpanTail : wigwaglaw07_SpanTail.Pure := by
  intro l0 n hl hx hn
  refine ⟨1000, ?_⟩
  unfold wigwaglaw07_SpanTail.f
  rw [awake_eq 1000 (by decide), Option.bind_some, few_eq, Option.bind_some]
  by_cases c0 : (l0.length : Int) ≤ 50
  · rw [decide_eq_true c0, if_pos rfl, check_eq (by omega) (by omega), Option.bind_some]
    by_cases o0 : Ok l0
    · rw [decide_eq_true o0, wigwaglaw07_SpanTail.j0, if_neg (by simp), last_eq (by omega), Option.bind_some]
      have e : (lastL l0 n).length = (if n < 0 then 0 else if n > (l0.length : Int) then l0.length else n.toNat) := by unfold lastL; rw [List.length_drop]; split <;> (try split) <;> omega
      have fin := tail_j1 (l := l0) (by omega) o0 (m := l0.length - (if n < 0 then 0 else if n > (l0.length : Int) then l0.length else n.toNat)) (by omega) (k := 999) (by omega)
      have fin : wigwaglaw07_SpanTail.j1 999 l0 true (lastL l0 n) ((lastL l0 n).length : Int) false = some true := fin
      rw [mx_eq]
      by_cases q1 : n < 0
      · rw [if_pos q1] at e
        rw [if_neg (by omega), if_neg (by omega), if_neg (by omega), if_neg (by omega)]
        exact fin
      · rw [if_neg q1] at e
        by_cases q2 : n > (l0.length : Int)
        · rw [if_pos q2] at e
          rw [if_neg (by omega), if_neg (by omega), if_pos (by omega), if_pos (by omega), if_pos (by omega), if_neg (by omega)]
          exact fin
        · rw [if_neg q2] at e
          by_cases q3 : n = (l0.length : Int)
          · rw [if_neg (by omega), if_neg (by omega), if_pos (by omega), if_pos (by omega), if_pos (by omega), if_neg (by omega)]
            exact fin
          · rw [if_neg (by omega), if_neg (by omega), if_neg (by omega), if_pos (by omega), if_pos (by omega), show (((lastL l0 n).length : Int) != n) = false by rw [bne_eq_false_iff_eq]; omega]
            exact fin
    · rw [decide_eq_false o0, wigwaglaw07_SpanTail.j0, if_pos (by simp)]
  · rw [decide_eq_false c0, if_neg (by simp), wigwaglaw07_SpanTail.j0, if_pos rfl]
end Go.Proofs.Ytgaccappklhojaa.Pure
