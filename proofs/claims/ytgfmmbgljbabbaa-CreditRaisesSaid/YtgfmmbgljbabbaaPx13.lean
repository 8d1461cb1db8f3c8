-- Printed for this claim by xprint.py of this session: contracts of this session's own stand in for what the print does not take
import Derived.Test.YtgfmmbgljbabbaaPx0
namespace Go.Proofs.Ytgfmmbgljbabbaa.P
open Go.RowKit Go.Proofs.YtgfmmbgljbabbaaW.PrintWords Go.Proofs.YtgfmmbgljbabbaaW.PrintLast Go.Proofs.YtgfmmbgljbabbaaW.PrintMore
attribute [local go_sem] max2_int min2_int max_two min_two max_three min_three max_four min_four   -- for this text's walks alone
set_option linter.unusedVariables false
set_option linter.unusedSimpArgs false

/-! ### wigwagref19_Stream: function 23 -/
def wigwagref19_Stream.f (a0 : Int) (a1 : Int) : Option (Int) := if (Int.tmod a0 4) = 0 then (if (IntKind.u64.wrap (Int.tdiv a0 4)) ≥ a1 then (some 4) else (some 0)) else (some 5)
set_option maxHeartbeats 8000000 in
set_option maxRecDepth 100000 in
theorem wigwagref19_Stream.calls (a0 : Int) (a1 : Int) (r : Int) (w : World) (h : wigwagref19_Stream.f a0 a1 = some r) :
    Calls Try.prog 23 #[.int .u64 a0, .int .u64 a1] w fun e w' => e = .returned (.int .i64 r) ∧ Drawn0 w w' := by
  have H : (if (Int.tmod a0 4) = 0 then (if (IntKind.u64.wrap (Int.tdiv a0 4)) ≥ a1 then (some 4) else (some 0)) else (some 5)) = some r := h
  clear h
  by_cases c3 : (Int.tmod a0 4) = 0
  · rw [if_pos c3] at H
    have c3b0 : ((Int.tmod a0 4) == 0) = true := beq_iff_eq.mpr c3
    have c3b1 : ((Int.tmod a0 4) != 0) = false := bne_eq_false_iff_eq.mpr c3
    clear c3
    by_cases c4 : (IntKind.u64.wrap (Int.tdiv a0 4)) ≥ a1
    · rw [if_pos c4] at H
      have c4b0 : decide (a1 ≤ (IntKind.u64.wrap (Int.tdiv a0 4))) = true := decide_eq_true c4
      clear c4
      obtain rfl := Option.some.inj H
      go_enter Try.func23, Try.ntmps23
      go_wp2
      go_ret
      exact ⟨by first | rfl | (simp; done) | (simp [*]; done), by repeat (first | exact Drawn0.refl _ | apply Drawn0.step)⟩
    · rw [if_neg c4] at H
      have c4b0 : decide (a1 ≤ (IntKind.u64.wrap (Int.tdiv a0 4))) = false := decide_eq_false c4
      clear c4
      obtain rfl := Option.some.inj H
      go_enter Try.func23, Try.ntmps23
      go_wp2
      go_ret
      exact ⟨by first | rfl | (simp; done) | (simp [*]; done), by repeat (first | exact Drawn0.refl _ | apply Drawn0.step)⟩
  · rw [if_neg c3] at H
    have c3b0 : ((Int.tmod a0 4) == 0) = false := beq_eq_false_iff_ne.mpr c3
    have c3b1 : ((Int.tmod a0 4) != 0) = true := bne_iff_ne.mpr c3
    obtain rfl := Option.some.inj H
    go_enter Try.func23, Try.ntmps23
    go_wp2
    go_ret
    exact ⟨by first | rfl | (simp; done) | (simp [*]; done), by repeat (first | exact Drawn0.refl _ | apply Drawn0.step)⟩

end Go.Proofs.Ytgfmmbgljbabbaa.P
