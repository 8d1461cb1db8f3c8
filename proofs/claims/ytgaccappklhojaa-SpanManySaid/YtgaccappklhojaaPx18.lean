-- Printed for this claim by xprint.py of this session: contracts of this session's own stand in for what the print does not take
import Derived.Test.YtgaccappklhojaaPx0
namespace Go.Proofs.Ytgaccappklhojaa.P
open Go.RowKit Go.Proofs.YtgaccappklhojaaW.PrintWords Go.Proofs.YtgaccappklhojaaW.PrintLast Go.Proofs.YtgaccappklhojaaW.PrintMore
attribute [local go_sem] max2_int min2_int max_two min_two max_three min_three max_four min_four   -- for this text's walks alone
set_option linter.unusedVariables false
set_option linter.unusedSimpArgs false

/-! ### wigwagref07_Check: function 13 -/
def wigwagref07_Check.l0 : Nat → List (S25) → Int → Option (Bool)
  | 0, _, _ => none
  | k + 1, x0, x3 => if x3 < (x0.length : Int) then (if 0 ≤ x3 then (if ((rd_T25 x0 x3).f0) ≥ ((rd_T25 x0 x3).f1) then (some false) else (if x3 > 0 then (if 0 ≤ (wrap64 (x3 - 1)) then (if (wrap64 (x3 - 1)) < (x0.length : Int) then (if ((rd_T25 x0 x3).f0) ≤ ((rd_T25 x0 (wrap64 (x3 - 1))).f1) then (some false) else (wigwagref07_Check.l0 k x0 (wrap64 (x3 + 1)))) else (none)) else (none)) else (wigwagref07_Check.l0 k x0 (wrap64 (x3 + 1))))) else (none)) else (some true)
def wigwagref07_Check.f (k : Nat) (l0 : List (S25)) : Option (Bool) := wigwagref07_Check.l0 k l0 0
theorem wigwagref07_Check.mono_l : ∀ k, (∀ y0 y1, LeO (wigwagref07_Check.l0 k y0 y1) (wigwagref07_Check.l0 (k + 1) y0 y1))
  | 0 => fun _ _ r h => by simp [wigwagref07_Check.l0] at h
  | k + 1 => by
    have ih0 := wigwagref07_Check.mono_l k
    · intro y0 y1
      unfold wigwagref07_Check.l0
      repeat' first
      | (with_reducible exact ih0 _ _)
      | (with_reducible exact LeO.refl _)
      | (with_reducible exact LeO.none _)
      | (with_reducible refine LeO.ite ?_ ?_)
      | (with_reducible refine LeO.bind ?_ (fun _ => ?_))
      | exact ih0 _ _
      | exact LeO.none _
      | refine LeO.ite ?_ ?_
      | refine LeO.bind ?_ (fun _ => ?_)
theorem wigwagref07_Check.mono : ∀ a0 k, LeO (wigwagref07_Check.f k a0) (wigwagref07_Check.f (k + 1) a0) := by
  intro a0 k
  have ih0 := wigwagref07_Check.mono_l k
  unfold wigwagref07_Check.f
  repeat' first
      | (with_reducible exact ih0 _ _)
      | (with_reducible exact LeO.refl _)
      | (with_reducible exact LeO.none _)
      | (with_reducible refine LeO.ite ?_ ?_)
      | (with_reducible refine LeO.bind ?_ (fun _ => ?_))
      | exact ih0 _ _
      | exact LeO.none _
      | refine LeO.ite ?_ ?_
      | refine LeO.bind ?_ (fun _ => ?_)
set_option maxHeartbeats 8000000 in
set_option maxRecDepth 100000 in
theorem wigwagref07_Check.calls (k : Nat) (A0 : Option Addr) (c0 : Nat) (l0 : List (S25)) (r : Bool) (w : World) (hr0 : Kd.C k25 w A0 l0.length l0) (hc0 : l0.length ≤ c0) (h : wigwagref07_Check.f k l0 = some r) :
    Calls Try.prog 13 #[.slice A0 l0.length c0] w fun e w' => e = .returned (.bool r) ∧ Drawn0 w w' := by
  have HR0 := Aside0.mk hr0
  have HC0 := Aside0.mk hc0
  clear hr0 hc0
  have H : (wigwagref07_Check.l0 k l0 0) = some r := h
  clear h
  have H' := Aside0.mk H
  clear H
  go_enter Try.func13, Try.ntmps13
  go_wp2
  repeat (go_quiet (fail); try go_wp2)
  go_loopg [3] k (fun kq v3 w' => ∃ (x3_1 : Int), v3 = .int .i64 x3_1 ∧ Aside0 (wigwagref07_Check.l0 kq l0 x3_1 = some r) ∧ Aside0 (kq ≤ k) ∧ Drawn0 w w')
  case atStart => exact ⟨(0), (by first | rfl | (simp; done) | (simp [*]; done)), H', ⟨Nat.le_refl _⟩, by repeat (first | exact Drawn0.refl _ | apply Drawn0.step)⟩
  case round =>
    clear H'
    try clear c1
    obtain ⟨x3_1, rfl, HA, HK1, ⟨m1, rfl⟩⟩ := hrel
    cases gk with
    | zero => exact absurd HA.out (by simp [wigwagref07_Check.l0])
    | succ k1 =>
      have H := HA.out
      clear HA
      simp only [wigwagref07_Check.l0] at H
      by_cases c2 : x3_1 < (l0.length : Int)
      · rw [if_pos c2] at H
        have c2b0 : decide (x3_1 < (l0.length : Int)) = true := decide_eq_true c2
        clear c2
        by_cases c3 : 0 ≤ x3_1
        · rw [if_pos c3] at H
          have c3b0 : decide (0 ≤ x3_1) = true := decide_eq_true c3
          clear c3
          by_cases c4 : ((rd_T25 l0 x3_1).f0) ≥ ((rd_T25 l0 x3_1).f1)
          · rw [if_pos c4] at H
            have c4b0 : decide (((rd_T25 l0 x3_1).f1) ≤ ((rd_T25 l0 x3_1).f0)) = true := decide_eq_true c4
            clear c4
            obtain rfl := Option.some.inj H
            have p350 : 0 ≤ (x3_1 : Int) := of_decide_eq_true (by first | (with_reducible assumption) | assumption)
            have q350 : x3_1 < (l0.length : Int) := of_decide_eq_true (by first | (with_reducible assumption) | assumption)
            obtain ⟨ad350, e350, hx350_0, hx350_1⟩ := at_T25 HR0.out x3_1 p350 q350
            cases e350
            replace p350 := eq_true p350
            replace q350 := eq_true q350
            have p351 : 0 ≤ (x3_1 : Int) := of_decide_eq_true (by first | (with_reducible assumption) | assumption)
            have q351 : x3_1 < (l0.length : Int) := of_decide_eq_true (by first | (with_reducible assumption) | assumption)
            obtain ⟨ad351, e351, hx351_0, hx351_1⟩ := at_T25 HR0.out x3_1 p351 q351
            obtain rfl : ad350 = ad351 := (by injection e351)
            replace p351 := eq_true p351
            replace q351 := eq_true q351
            go_wp2
            repeat (go_quiet (fail); try go_wp2)
            go_ret
            exact ⟨by first | rfl | (simp; done) | (simp [*]; done), by repeat (first | exact Drawn0.refl _ | apply Drawn0.step)⟩
          · rw [if_neg c4] at H
            have c4b0 : decide (((rd_T25 l0 x3_1).f1) ≤ ((rd_T25 l0 x3_1).f0)) = false := decide_eq_false c4
            clear c4
            by_cases c5 : x3_1 > 0
            · rw [if_pos c5] at H
              have c5b0 : decide (0 < x3_1) = true := decide_eq_true c5
              clear c5
              obtain ⟨ji6, hji6⟩ : ∃ j_ : Int, (wrap64 (x3_1 - 1)) = j_ := ⟨_, rfl⟩
              replace H : (if 0 ≤ (ji6) then (if (ji6) < (l0.length : Int) then (if ((rd_T25 l0 x3_1).f0) ≤ ((rd_T25 l0 (ji6)).f1) then (some false) else (wigwagref07_Check.l0 k1 l0 (wrap64 (x3_1 + 1)))) else (none)) else (none)) = some r := by first | (rw [hji6] at H; exact H) | (simp only [hji6] at H ⊢; exact H)
              have hji6w : (IntKind.i64.wrap (x3_1 - 1)) = ji6 := (i64_w _).trans hji6
              by_cases c7 : 0 ≤ (ji6)
              · rw [if_pos c7] at H
                have c7b0 : decide (0 ≤ (ji6)) = true := decide_eq_true c7
                clear c7
                by_cases c8 : (ji6) < (l0.length : Int)
                · rw [if_pos c8] at H
                  have c8b0 : decide ((ji6) < (l0.length : Int)) = true := decide_eq_true c8
                  clear c8
                  by_cases c9 : ((rd_T25 l0 x3_1).f0) ≤ ((rd_T25 l0 (ji6)).f1)
                  · rw [if_pos c9] at H
                    have c9b0 : decide (((rd_T25 l0 x3_1).f0) ≤ ((rd_T25 l0 (ji6)).f1)) = true := decide_eq_true c9
                    clear c9
                    obtain rfl := Option.some.inj H
                    have p350 : 0 ≤ (x3_1 : Int) := of_decide_eq_true (by first | (with_reducible assumption) | assumption)
                    have q350 : x3_1 < (l0.length : Int) := of_decide_eq_true (by first | (with_reducible assumption) | assumption)
                    obtain ⟨ad350, e350, hx350_0, hx350_1⟩ := at_T25 HR0.out x3_1 p350 q350
                    cases e350
                    replace p350 := eq_true p350
                    replace q350 := eq_true q350
                    have p351 : 0 ≤ (x3_1 : Int) := of_decide_eq_true (by first | (with_reducible assumption) | assumption)
                    have q351 : x3_1 < (l0.length : Int) := of_decide_eq_true (by first | (with_reducible assumption) | assumption)
                    obtain ⟨ad351, e351, hx351_0, hx351_1⟩ := at_T25 HR0.out x3_1 p351 q351
                    obtain rfl : ad350 = ad351 := (by injection e351)
                    replace p351 := eq_true p351
                    replace q351 := eq_true q351
                    have p352 : 0 ≤ (x3_1 : Int) := of_decide_eq_true (by first | (with_reducible assumption) | assumption)
                    have q352 : x3_1 < (l0.length : Int) := of_decide_eq_true (by first | (with_reducible assumption) | assumption)
                    obtain ⟨ad352, e352, hx352_0, hx352_1⟩ := at_T25 HR0.out x3_1 p352 q352
                    obtain rfl : ad350 = ad352 := (by injection e352)
                    replace p352 := eq_true p352
                    replace q352 := eq_true q352
                    have p353 : 0 ≤ ((ji6) : Int) := of_decide_eq_true (by first | (with_reducible assumption) | assumption)
                    have q353 : (ji6) < (l0.length : Int) := of_decide_eq_true (by first | (with_reducible assumption) | assumption)
                    obtain ⟨ad353, e353, hx353_0, hx353_1⟩ := at_T25 HR0.out (ji6) p353 q353
                    obtain rfl : ad350 = ad353 := (by injection e353)
                    replace p353 := eq_true p353
                    replace q353 := eq_true q353
                    go_wp2
                    repeat (go_quiet (fail); try go_wp2)
                    go_ret
                    exact ⟨by first | rfl | (simp; done) | (simp only [← hji6] <;> (first | rfl | (simp; done))) | (simp [*]; done) | (simp only [← hji6]; congr 1; unfold mn mx; omega) | (simp only [← hji6]; congr 1; unfold mn; omega) | (simp only [← hji6]; congr 1; unfold mx; omega), by repeat (first | exact Drawn0.refl _ | apply Drawn0.step)⟩
                  · rw [if_neg c9] at H
                    have c9b0 : decide (((rd_T25 l0 x3_1).f0) ≤ ((rd_T25 l0 (ji6)).f1)) = false := decide_eq_false c9
                    clear c9
                    have H' := Aside0.mk H
                    clear H
                    have p350 : 0 ≤ (x3_1 : Int) := of_decide_eq_true (by first | (with_reducible assumption) | assumption)
                    have q350 : x3_1 < (l0.length : Int) := of_decide_eq_true (by first | (with_reducible assumption) | assumption)
                    obtain ⟨ad350, e350, hx350_0, hx350_1⟩ := at_T25 HR0.out x3_1 p350 q350
                    cases e350
                    replace p350 := eq_true p350
                    replace q350 := eq_true q350
                    have p351 : 0 ≤ (x3_1 : Int) := of_decide_eq_true (by first | (with_reducible assumption) | assumption)
                    have q351 : x3_1 < (l0.length : Int) := of_decide_eq_true (by first | (with_reducible assumption) | assumption)
                    obtain ⟨ad351, e351, hx351_0, hx351_1⟩ := at_T25 HR0.out x3_1 p351 q351
                    obtain rfl : ad350 = ad351 := (by injection e351)
                    replace p351 := eq_true p351
                    replace q351 := eq_true q351
                    have p352 : 0 ≤ (x3_1 : Int) := of_decide_eq_true (by first | (with_reducible assumption) | assumption)
                    have q352 : x3_1 < (l0.length : Int) := of_decide_eq_true (by first | (with_reducible assumption) | assumption)
                    obtain ⟨ad352, e352, hx352_0, hx352_1⟩ := at_T25 HR0.out x3_1 p352 q352
                    obtain rfl : ad350 = ad352 := (by injection e352)
                    replace p352 := eq_true p352
                    replace q352 := eq_true q352
                    have p353 : 0 ≤ ((ji6) : Int) := of_decide_eq_true (by first | (with_reducible assumption) | assumption)
                    have q353 : (ji6) < (l0.length : Int) := of_decide_eq_true (by first | (with_reducible assumption) | assumption)
                    obtain ⟨ad353, e353, hx353_0, hx353_1⟩ := at_T25 HR0.out (ji6) p353 q353
                    obtain rfl : ad350 = ad353 := (by injection e353)
                    replace p353 := eq_true p353
                    replace q353 := eq_true q353
                    go_wp2
                    repeat (go_quiet (fail); try go_wp2)
                    go_roundg k1
                    case measure => have := HK1.out; omega
                    case rel => exact ⟨(wrap64 (x3_1 + 1)), (by first | rfl | (simp; done) | (simp [*]; done)), H', ⟨by have := HK1.out; omega⟩, by repeat (first | exact Drawn0.refl _ | apply Drawn0.step)⟩
                · rw [if_neg c8] at H
                  exact absurd H (by simp)
              · rw [if_neg c7] at H
                exact absurd H (by simp)
            · rw [if_neg c5] at H
              have c5b0 : decide (0 < x3_1) = false := decide_eq_false c5
              clear c5
              have H' := Aside0.mk H
              clear H
              have p350 : 0 ≤ (x3_1 : Int) := of_decide_eq_true (by first | (with_reducible assumption) | assumption)
              have q350 : x3_1 < (l0.length : Int) := of_decide_eq_true (by first | (with_reducible assumption) | assumption)
              obtain ⟨ad350, e350, hx350_0, hx350_1⟩ := at_T25 HR0.out x3_1 p350 q350
              cases e350
              replace p350 := eq_true p350
              replace q350 := eq_true q350
              have p351 : 0 ≤ (x3_1 : Int) := of_decide_eq_true (by first | (with_reducible assumption) | assumption)
              have q351 : x3_1 < (l0.length : Int) := of_decide_eq_true (by first | (with_reducible assumption) | assumption)
              obtain ⟨ad351, e351, hx351_0, hx351_1⟩ := at_T25 HR0.out x3_1 p351 q351
              obtain rfl : ad350 = ad351 := (by injection e351)
              replace p351 := eq_true p351
              replace q351 := eq_true q351
              go_wp2
              repeat (go_quiet (fail); try go_wp2)
              go_roundg k1
              case measure => have := HK1.out; omega
              case rel => exact ⟨(wrap64 (x3_1 + 1)), (by first | rfl | (simp; done) | (simp [*]; done)), H', ⟨by have := HK1.out; omega⟩, by repeat (first | exact Drawn0.refl _ | apply Drawn0.step)⟩
        · rw [if_neg c3] at H
          exact absurd H (by simp)
      · rw [if_neg c2] at H
        have c2b0 : decide (x3_1 < (l0.length : Int)) = false := decide_eq_false c2
        clear c2
        obtain rfl := Option.some.inj H
        go_wp2
        repeat (go_quiet (fail); try go_wp2)
        go_ret
        exact ⟨by first | rfl | (simp; done) | (simp [*]; done), by repeat (first | exact Drawn0.refl _ | apply Drawn0.step)⟩

end Go.Proofs.Ytgaccappklhojaa.P
