-- Printed for this claim by xprint.py of this session: contracts of this session's own stand in for what the print does not take
import Derived.Test.YtfgmikhlplbmeaaPx0
namespace Go.Proofs.Ytfgmikhlplbmeaa.P
open Go.RowKit Go.Proofs.YtfgmikhlplbmeaaW.PrintWords Go.Proofs.YtfgmikhlplbmeaaW.PrintLast Go.Proofs.YtfgmikhlplbmeaaW.PrintMore
attribute [local go_sem] max2_int min2_int max_two min_two max_three min_three max_four min_four   -- for this text's walks alone
set_option linter.unusedVariables false
set_option linter.unusedSimpArgs false

/-! ### ledger_Check: function 15 -/
def ledger_Check.l0 : Nat → List (S37) → Int → Option (Bool)
  | 0, _, _ => none
  | k + 1, x0, x3 => if x3 < (x0.length : Int) then (if 0 ≤ x3 then (if 0 ≤ (wrap64 (x3 - 1)) then (if (wrap64 (x3 - 1)) < (x0.length : Int) then (if ((rd_T37 x0 x3).f0) ≤ ((rd_T37 x0 (wrap64 (x3 - 1))).f0) then (some false) else (ledger_Check.l0 k x0 (wrap64 (x3 + 1)))) else (none)) else (none)) else (none)) else (some true)
def ledger_Check.f (k : Nat) (l0 : List (S37)) : Option (Bool) := ledger_Check.l0 k l0 1
theorem ledger_Check.mono_l : ∀ k, (∀ y0 y1, LeO (ledger_Check.l0 k y0 y1) (ledger_Check.l0 (k + 1) y0 y1))
  | 0 => fun _ _ r h => by simp [ledger_Check.l0] at h
  | k + 1 => by
    have ih0 := ledger_Check.mono_l k
    · intro y0 y1
      unfold ledger_Check.l0
      repeat' first
      | (with_reducible exact ih0 _ _)
      | (with_reducible exact LeO.refl _)
      | (with_reducible exact LeO.none _)
      | (with_reducible refine LeO.ite ?_ ?_)
      | (with_reducible refine LeO.bind ?_ (fun _ => ?_))
      | exact ih0 _ _
      | exact LeO.none _
      | refine LeO.ite ?_ ?_
      | refine LeO.bind ?_ (fun _ => ?_)
theorem ledger_Check.mono : ∀ a0 k, LeO (ledger_Check.f k a0) (ledger_Check.f (k + 1) a0) := by
  intro a0 k
  have ih0 := ledger_Check.mono_l k
  unfold ledger_Check.f
  repeat' first
      | (with_reducible exact ih0 _ _)
      | (with_reducible exact LeO.refl _)
      | (with_reducible exact LeO.none _)
      | (with_reducible refine LeO.ite ?_ ?_)
      | (with_reducible refine LeO.bind ?_ (fun _ => ?_))
      | exact ih0 _ _
      | exact LeO.none _
      | refine LeO.ite ?_ ?_
      | refine LeO.bind ?_ (fun _ => ?_)
set_option maxHeartbeats 8000000 in
set_option maxRecDepth 100000 in
theorem ledger_Check.calls (k : Nat) (A0 : Option Addr) (c0 : Nat) (l0 : List (S37)) (r : Bool) (w : World) (hr0 : Kd.C k37 w A0 l0.length l0) (hc0 : l0.length ≤ c0) (h : ledger_Check.f k l0 = some r) :
    Calls Try.prog 15 #[.slice A0 l0.length c0] w fun e w' => e = .returned (.bool r) ∧ Drawn0 w w' := by
  have HR0 := Aside0.mk hr0
  have HC0 := Aside0.mk hc0
  clear hr0 hc0
  have H : (ledger_Check.l0 k l0 1) = some r := h
  clear h
  have H' := Aside0.mk H
  clear H
  go_enter Try.func15, Try.ntmps15
  go_wp2
  repeat (go_quiet (fail); try go_wp2)
  go_loopg [3] k (fun kq v3 w' => ∃ (x3_1 : Int), v3 = .int .i64 x3_1 ∧ Aside0 (ledger_Check.l0 kq l0 x3_1 = some r) ∧ Aside0 (kq ≤ k) ∧ Drawn0 w w')
  case atStart => exact ⟨(1), (by first | rfl | (simp; done) | (simp [*]; done)), H', ⟨Nat.le_refl _⟩, by repeat (first | exact Drawn0.refl _ | apply Drawn0.step)⟩
  case round =>
    clear H'
    try clear c1
    obtain ⟨x3_1, rfl, HA, HK1, ⟨m1, rfl⟩⟩ := hrel
    cases gk with
    | zero => exact absurd HA.out (by simp [ledger_Check.l0])
    | succ k1 =>
      have H := HA.out
      clear HA
      simp only [ledger_Check.l0] at H
      by_cases c2 : x3_1 < (l0.length : Int)
      · rw [if_pos c2] at H
        have c2b0 : decide (x3_1 < (l0.length : Int)) = true := decide_eq_true c2
        clear c2
        by_cases c3 : 0 ≤ x3_1
        · rw [if_pos c3] at H
          have c3b0 : decide (0 ≤ x3_1) = true := decide_eq_true c3
          clear c3
          obtain ⟨ji4, hji4⟩ : ∃ j_ : Int, (wrap64 (x3_1 - 1)) = j_ := ⟨_, rfl⟩
          replace H : (if 0 ≤ (ji4) then (if (ji4) < (l0.length : Int) then (if ((rd_T37 l0 x3_1).f0) ≤ ((rd_T37 l0 (ji4)).f0) then (some false) else (ledger_Check.l0 k1 l0 (wrap64 (x3_1 + 1)))) else (none)) else (none)) = some r := by first | (rw [hji4] at H; exact H) | (simp only [hji4] at H ⊢; exact H)
          have hji4w : (IntKind.i64.wrap (x3_1 - 1)) = ji4 := (i64_w _).trans hji4
          by_cases c5 : 0 ≤ (ji4)
          · rw [if_pos c5] at H
            have c5b0 : decide (0 ≤ (ji4)) = true := decide_eq_true c5
            clear c5
            by_cases c6 : (ji4) < (l0.length : Int)
            · rw [if_pos c6] at H
              have c6b0 : decide ((ji4) < (l0.length : Int)) = true := decide_eq_true c6
              clear c6
              by_cases c7 : ((rd_T37 l0 x3_1).f0) ≤ ((rd_T37 l0 (ji4)).f0)
              · rw [if_pos c7] at H
                have c7b0 : decide (((rd_T37 l0 x3_1).f0) ≤ ((rd_T37 l0 (ji4)).f0)) = true := decide_eq_true c7
                clear c7
                obtain rfl := Option.some.inj H
                have p130 : 0 ≤ (x3_1 : Int) := of_decide_eq_true (by first | (with_reducible assumption) | assumption)
                have q130 : x3_1 < (l0.length : Int) := of_decide_eq_true (by first | (with_reducible assumption) | assumption)
                obtain ⟨ad130, e130, hx130_0, hx130_1, hx130_2, hx130_3⟩ := at_T37 HR0.out x3_1 p130 q130
                cases e130
                replace p130 := eq_true p130
                replace q130 := eq_true q130
                have p131 : 0 ≤ ((ji4) : Int) := of_decide_eq_true (by first | (with_reducible assumption) | assumption)
                have q131 : (ji4) < (l0.length : Int) := of_decide_eq_true (by first | (with_reducible assumption) | assumption)
                obtain ⟨ad131, e131, hx131_0, hx131_1, hx131_2, hx131_3⟩ := at_T37 HR0.out (ji4) p131 q131
                obtain rfl : ad130 = ad131 := (by injection e131)
                replace p131 := eq_true p131
                replace q131 := eq_true q131
                go_wp2
                repeat (go_quiet (fail); try go_wp2)
                go_ret
                exact ⟨by first | rfl | (simp; done) | (simp only [← hji4] <;> (first | rfl | (simp; done))) | (simp [*]; done) | (simp only [← hji4]; congr 1; unfold mn mx; omega) | (simp only [← hji4]; congr 1; unfold mn; omega) | (simp only [← hji4]; congr 1; unfold mx; omega), by repeat (first | exact Drawn0.refl _ | apply Drawn0.step)⟩
              · rw [if_neg c7] at H
                have c7b0 : decide (((rd_T37 l0 x3_1).f0) ≤ ((rd_T37 l0 (ji4)).f0)) = false := decide_eq_false c7
                clear c7
                have H' := Aside0.mk H
                clear H
                have p130 : 0 ≤ (x3_1 : Int) := of_decide_eq_true (by first | (with_reducible assumption) | assumption)
                have q130 : x3_1 < (l0.length : Int) := of_decide_eq_true (by first | (with_reducible assumption) | assumption)
                obtain ⟨ad130, e130, hx130_0, hx130_1, hx130_2, hx130_3⟩ := at_T37 HR0.out x3_1 p130 q130
                cases e130
                replace p130 := eq_true p130
                replace q130 := eq_true q130
                have p131 : 0 ≤ ((ji4) : Int) := of_decide_eq_true (by first | (with_reducible assumption) | assumption)
                have q131 : (ji4) < (l0.length : Int) := of_decide_eq_true (by first | (with_reducible assumption) | assumption)
                obtain ⟨ad131, e131, hx131_0, hx131_1, hx131_2, hx131_3⟩ := at_T37 HR0.out (ji4) p131 q131
                obtain rfl : ad130 = ad131 := (by injection e131)
                replace p131 := eq_true p131
                replace q131 := eq_true q131
                go_wp2
                repeat (go_quiet (fail); try go_wp2)
                go_roundg k1
                case measure => have := HK1.out; omega
                case rel => exact ⟨(wrap64 (x3_1 + 1)), (by first | rfl | (simp; done) | (simp [*]; done)), H', ⟨by have := HK1.out; omega⟩, by repeat (first | exact Drawn0.refl _ | apply Drawn0.step)⟩
            · rw [if_neg c6] at H
              exact absurd H (by simp)
          · rw [if_neg c5] at H
            exact absurd H (by simp)
        · rw [if_neg c3] at H
          exact absurd H (by simp)
      · rw [if_neg c2] at H
        have c2b0 : decide (x3_1 < (l0.length : Int)) = false := decide_eq_false c2
        clear c2
        obtain rfl := Option.some.inj H
        go_wp2
        repeat (go_quiet (fail); try go_wp2)
        go_ret
        exact ⟨by first | rfl | (simp; done) | (simp [*]; done), by repeat (first | exact Drawn0.refl _ | apply Drawn0.step)⟩

-- NOT PRINTED: function 33 (bits_Add64)

/-! ### fix_Add: function 28 -/
def fix_Add.f (a0 : Int) (a1 : Int) : Option (Int) := if 0 ≤ a0 then (if 0 ≤ a1 then (if a0 + a1 < 18446744073709551616 then some (a0 + a1) else some 18446744073709551615) else none) else none
theorem fix_Add.add64 (x y : Int) (hx : 0 ≤ x) (hy : 0 ≤ y) (w : World) : (callFunc 33 #[.int .u64 x, .int .u64 y, .int .u64 0]).run Try.prog w =
    .ok (.value (.tuple #[.int .u64 ((x + y) % 18446744073709551616), .int .u64 ((x + y) / 18446744073709551616)])) w := by
  rw [run_callFunc_extern Try.func33 (by kernel_rfl) (by kernel_rfl) (by kernel_rfl) (e := add64Entry) (by kernel_rfl), run_add64 x y 0 hx hy (by omega) (by omega)]
  simp only [Result.andThen, Int.add_zero]
set_option maxHeartbeats 1000000 in
theorem fix_Add.calls (a0 : Int) (a1 : Int) (r : Int) (w : World) (h : fix_Add.f a0 a1 = some r) :
    Calls Try.prog 28 #[.int .u64 a0, .int .u64 a1] w fun e w' => e = .returned (.int .u64 r) ∧ Drawn0 w w' := by
  unfold fix_Add.f at h
  by_cases h0 : 0 ≤ a0
  · rw [if_pos h0] at h
    by_cases h1 : 0 ≤ a1
    · rw [if_pos h1] at h
      by_cases h2 : a0 + a1 < 18446744073709551616
      · rw [if_pos h2] at h
        obtain rfl := Option.some.inj h
        have e1 : (a0 + a1) % 18446744073709551616 = a0 + a1 := by omega
        have e2 : (a0 + a1) / 18446744073709551616 = 0 := by omega
        have ha := fix_Add.add64 a0 a1 h0 h1
        rw [e1, e2] at ha
        clear e1 e2
        go_enter Try.func28, Try.ntmps28
        go_wp2
        go_ret
        exact ⟨rfl, Drawn0.refl _⟩
      · rw [if_neg h2] at h
        obtain rfl := Option.some.inj h
        have ha := fix_Add.add64 a0 a1 h0 h1
        have e2 : 0 < (a0 + a1) / 18446744073709551616 := by omega
        generalize (a0 + a1) % 18446744073709551616 = s at ha
        generalize (a0 + a1) / 18446744073709551616 = o at ha e2
        go_enter Try.func28, Try.ntmps28
        go_wp2
        go_ret
        exact ⟨rfl, Drawn0.refl _⟩
    · rw [if_neg h1] at h
      exact absurd h (by simp)
  · rw [if_neg h0] at h
    exact absurd h (by simp)

end Go.Proofs.Ytfgmikhlplbmeaa.P
