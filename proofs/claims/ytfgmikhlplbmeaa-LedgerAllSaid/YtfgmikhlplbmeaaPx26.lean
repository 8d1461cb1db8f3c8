-- Printed for this claim by xprint.py of this session: contracts of this session's own stand in for what the print does not take
import Derived.Test.YtfgmikhlplbmeaaPx0
import Derived.Test.YtfgmikhlplbmeaaPx16
namespace Go.Proofs.Ytfgmikhlplbmeaa.P
open Go.RowKit Go.Proofs.YtfgmikhlplbmeaaW.PrintWords Go.Proofs.YtfgmikhlplbmeaaW.PrintLast Go.Proofs.YtfgmikhlplbmeaaW.PrintMore
attribute [local go_sem] max2_int min2_int max_two min_two max_three min_three max_four min_four   -- for this text's walks alone
set_option linter.unusedVariables false
set_option linter.unusedSimpArgs false

/-! ### wigwagref09_Check: function 16 -/
def wigwagref09_Check.l0 : Nat → List (S37) → Int → Option (Bool)
  | 0, _, _ => none
  | k + 1, x0, x3 => if x3 < (x0.length : Int) then (if 0 ≤ x3 then (if 0 ≤ (wrap64 (x3 - 1)) then (if (wrap64 (x3 - 1)) < (x0.length : Int) then (if ((rd_T37 x0 x3).f0) ≤ ((rd_T37 x0 (wrap64 (x3 - 1))).f0) then (some false) else (wigwagref09_Check.l0 k x0 (wrap64 (x3 + 1)))) else (none)) else (none)) else (none)) else (some true)
def wigwagref09_Check.f (k : Nat) (l0 : List (S37)) : Option (Bool) := wigwagref09_Check.l0 k l0 1
theorem wigwagref09_Check.mono_l : ∀ k, (∀ y0 y1, LeO (wigwagref09_Check.l0 k y0 y1) (wigwagref09_Check.l0 (k + 1) y0 y1))
  | 0 => fun _ _ r h => by simp [wigwagref09_Check.l0] at h
  | k + 1 => by
    have ih0 := wigwagref09_Check.mono_l k
    · intro y0 y1
      unfold wigwagref09_Check.l0
      repeat' first
      | (with_reducible exact ih0 _ _)
      | (with_reducible exact LeO.refl _)
      | (with_reducible exact LeO.none _)
      | (with_reducible refine LeO.ite ?_ ?_)
      | (with_reducible refine LeO.bind ?_ (fun _ => ?_))
      | exact ih0 _ _
      | exact LeO.none _
      | refine LeO.ite ?_ ?_
      | refine LeO.bind ?_ (fun _ => ?_)
theorem wigwagref09_Check.mono : ∀ a0 k, LeO (wigwagref09_Check.f k a0) (wigwagref09_Check.f (k + 1) a0) := by
  intro a0 k
  have ih0 := wigwagref09_Check.mono_l k
  unfold wigwagref09_Check.f
  repeat' first
      | (with_reducible exact ih0 _ _)
      | (with_reducible exact LeO.refl _)
      | (with_reducible exact LeO.none _)
      | (with_reducible refine LeO.ite ?_ ?_)
      | (with_reducible refine LeO.bind ?_ (fun _ => ?_))
      | exact ih0 _ _
      | exact LeO.none _
      | refine LeO.ite ?_ ?_
      | refine LeO.bind ?_ (fun _ => ?_)
set_option maxHeartbeats 8000000 in
set_option maxRecDepth 100000 in
theorem wigwagref09_Check.calls (k : Nat) (A0 : Option Addr) (c0 : Nat) (l0 : List (S37)) (r : Bool) (w : World) (hr0 : Kd.C k37 w A0 l0.length l0) (hc0 : l0.length ≤ c0) (h : wigwagref09_Check.f k l0 = some r) :
    Calls Try.prog 16 #[.slice A0 l0.length c0] w fun e w' => e = .returned (.bool r) ∧ Drawn0 w w' := by
  have HR0 := Aside0.mk hr0
  have HC0 := Aside0.mk hc0
  clear hr0 hc0
  have H : (wigwagref09_Check.l0 k l0 1) = some r := h
  clear h
  have H' := Aside0.mk H
  clear H
  go_enter Try.func16, Try.ntmps16
  go_wp2
  repeat (go_quiet (fail); try go_wp2)
  go_loopg [3] k (fun kq v3 w' => ∃ (x3_1 : Int), v3 = .int .i64 x3_1 ∧ Aside0 (wigwagref09_Check.l0 kq l0 x3_1 = some r) ∧ Aside0 (kq ≤ k) ∧ Drawn0 w w')
  case atStart => exact ⟨(1), (by first | rfl | (simp; done) | (simp [*]; done)), H', ⟨Nat.le_refl _⟩, by repeat (first | exact Drawn0.refl _ | apply Drawn0.step)⟩
  case round =>
    clear H'
    try clear c1
    obtain ⟨x3_1, rfl, HA, HK1, ⟨m1, rfl⟩⟩ := hrel
    cases gk with
    | zero => exact absurd HA.out (by simp [wigwagref09_Check.l0])
    | succ k1 =>
      have H := HA.out
      clear HA
      simp only [wigwagref09_Check.l0] at H
      by_cases c2 : x3_1 < (l0.length : Int)
      · rw [if_pos c2] at H
        have c2b0 : decide (x3_1 < (l0.length : Int)) = true := decide_eq_true c2
        clear c2
        by_cases c3 : 0 ≤ x3_1
        · rw [if_pos c3] at H
          have c3b0 : decide (0 ≤ x3_1) = true := decide_eq_true c3
          clear c3
          obtain ⟨ji4, hji4⟩ : ∃ j_ : Int, (wrap64 (x3_1 - 1)) = j_ := ⟨_, rfl⟩
          replace H : (if 0 ≤ (ji4) then (if (ji4) < (l0.length : Int) then (if ((rd_T37 l0 x3_1).f0) ≤ ((rd_T37 l0 (ji4)).f0) then (some false) else (wigwagref09_Check.l0 k1 l0 (wrap64 (x3_1 + 1)))) else (none)) else (none)) = some r := by first | (rw [hji4] at H; exact H) | (simp only [hji4] at H ⊢; exact H)
          have hji4w : (IntKind.i64.wrap (x3_1 - 1)) = ji4 := (i64_w _).trans hji4
          by_cases c5 : 0 ≤ (ji4)
          · rw [if_pos c5] at H
            have c5b0 : decide (0 ≤ (ji4)) = true := decide_eq_true c5
            clear c5
            by_cases c6 : (ji4) < (l0.length : Int)
            · rw [if_pos c6] at H
              have c6b0 : decide ((ji4) < (l0.length : Int)) = true := decide_eq_true c6
              clear c6
              by_cases c7 : ((rd_T37 l0 x3_1).f0) ≤ ((rd_T37 l0 (ji4)).f0)
              · rw [if_pos c7] at H
                have c7b0 : decide (((rd_T37 l0 x3_1).f0) ≤ ((rd_T37 l0 (ji4)).f0)) = true := decide_eq_true c7
                clear c7
                obtain rfl := Option.some.inj H
                have p410 : 0 ≤ (x3_1 : Int) := of_decide_eq_true (by first | (with_reducible assumption) | assumption)
                have q410 : x3_1 < (l0.length : Int) := of_decide_eq_true (by first | (with_reducible assumption) | assumption)
                obtain ⟨ad410, e410, hx410_0, hx410_1, hx410_2, hx410_3⟩ := at_T37 HR0.out x3_1 p410 q410
                cases e410
                replace p410 := eq_true p410
                replace q410 := eq_true q410
                have p411 : 0 ≤ ((ji4) : Int) := of_decide_eq_true (by first | (with_reducible assumption) | assumption)
                have q411 : (ji4) < (l0.length : Int) := of_decide_eq_true (by first | (with_reducible assumption) | assumption)
                obtain ⟨ad411, e411, hx411_0, hx411_1, hx411_2, hx411_3⟩ := at_T37 HR0.out (ji4) p411 q411
                obtain rfl : ad410 = ad411 := (by injection e411)
                replace p411 := eq_true p411
                replace q411 := eq_true q411
                go_wp2
                repeat (go_quiet (fail); try go_wp2)
                go_ret
                exact ⟨by first | rfl | (simp; done) | (simp only [← hji4] <;> (first | rfl | (simp; done))) | (simp [*]; done) | (simp only [← hji4]; congr 1; unfold mn mx; omega) | (simp only [← hji4]; congr 1; unfold mn; omega) | (simp only [← hji4]; congr 1; unfold mx; omega), by repeat (first | exact Drawn0.refl _ | apply Drawn0.step)⟩
              · rw [if_neg c7] at H
                have c7b0 : decide (((rd_T37 l0 x3_1).f0) ≤ ((rd_T37 l0 (ji4)).f0)) = false := decide_eq_false c7
                clear c7
                have H' := Aside0.mk H
                clear H
                have p410 : 0 ≤ (x3_1 : Int) := of_decide_eq_true (by first | (with_reducible assumption) | assumption)
                have q410 : x3_1 < (l0.length : Int) := of_decide_eq_true (by first | (with_reducible assumption) | assumption)
                obtain ⟨ad410, e410, hx410_0, hx410_1, hx410_2, hx410_3⟩ := at_T37 HR0.out x3_1 p410 q410
                cases e410
                replace p410 := eq_true p410
                replace q410 := eq_true q410
                have p411 : 0 ≤ ((ji4) : Int) := of_decide_eq_true (by first | (with_reducible assumption) | assumption)
                have q411 : (ji4) < (l0.length : Int) := of_decide_eq_true (by first | (with_reducible assumption) | assumption)
                obtain ⟨ad411, e411, hx411_0, hx411_1, hx411_2, hx411_3⟩ := at_T37 HR0.out (ji4) p411 q411
                obtain rfl : ad410 = ad411 := (by injection e411)
                replace p411 := eq_true p411
                replace q411 := eq_true q411
                go_wp2
                repeat (go_quiet (fail); try go_wp2)
                go_roundg k1
                case measure => have := HK1.out; omega
                case rel => exact ⟨(wrap64 (x3_1 + 1)), (by first | rfl | (simp; done) | (simp [*]; done)), H', ⟨by have := HK1.out; omega⟩, by repeat (first | exact Drawn0.refl _ | apply Drawn0.step)⟩
            · rw [if_neg c6] at H
              exact absurd H (by simp)
          · rw [if_neg c5] at H
            exact absurd H (by simp)
        · rw [if_neg c3] at H
          exact absurd H (by simp)
      · rw [if_neg c2] at H
        have c2b0 : decide (x3_1 < (l0.length : Int)) = false := decide_eq_false c2
        clear c2
        obtain rfl := Option.some.inj H
        go_wp2
        repeat (go_quiet (fail); try go_wp2)
        go_ret
        exact ⟨by first | rfl | (simp; done) | (simp [*]; done), by repeat (first | exact Drawn0.refl _ | apply Drawn0.step)⟩

/-! ### wigwagref09_Flight: function 18 -/
def wigwagref09_Flight.l0 : Nat → List (S37) → Int → Int → Option (Int)
  | 0, _, _, _ => none
  | k + 1, x0, x3, x4 => if x4 < (x0.length : Int) then (if 0 ≤ x4 then ((wigwagref01_Add.f x3 ((rd_T37 x0 x4).f2)).bind fun t413 => (wigwagref09_Flight.l0 k x0 t413 (wrap64 (x4 + 1)))) else (none)) else (some x3)
def wigwagref09_Flight.f (k : Nat) (l0 : List (S37)) : Option (Int) := wigwagref09_Flight.l0 k l0 0 0
theorem wigwagref09_Flight.mono_l : ∀ k, (∀ y0 y1 y2, LeO (wigwagref09_Flight.l0 k y0 y1 y2) (wigwagref09_Flight.l0 (k + 1) y0 y1 y2))
  | 0 => fun _ _ _ r h => by simp [wigwagref09_Flight.l0] at h
  | k + 1 => by
    have ih0 := wigwagref09_Flight.mono_l k
    · intro y0 y1 y2
      unfold wigwagref09_Flight.l0
      repeat' first
      | (with_reducible exact ih0 _ _ _)
      | (with_reducible exact LeO.refl _)
      | (with_reducible exact LeO.none _)
      | (with_reducible refine LeO.ite ?_ ?_)
      | (with_reducible refine LeO.bind ?_ (fun _ => ?_))
      | exact ih0 _ _ _
      | exact LeO.none _
      | refine LeO.ite ?_ ?_
      | refine LeO.bind ?_ (fun _ => ?_)
theorem wigwagref09_Flight.mono : ∀ a0 k, LeO (wigwagref09_Flight.f k a0) (wigwagref09_Flight.f (k + 1) a0) := by
  intro a0 k
  have ih0 := wigwagref09_Flight.mono_l k
  unfold wigwagref09_Flight.f
  repeat' first
      | (with_reducible exact ih0 _ _ _)
      | (with_reducible exact LeO.refl _)
      | (with_reducible exact LeO.none _)
      | (with_reducible refine LeO.ite ?_ ?_)
      | (with_reducible refine LeO.bind ?_ (fun _ => ?_))
      | exact ih0 _ _ _
      | exact LeO.none _
      | refine LeO.ite ?_ ?_
      | refine LeO.bind ?_ (fun _ => ?_)
set_option maxHeartbeats 8000000 in
set_option maxRecDepth 100000 in
theorem wigwagref09_Flight.calls (k : Nat) (A0 : Option Addr) (c0 : Nat) (l0 : List (S37)) (r : Int) (w : World) (hr0 : Kd.C k37 w A0 l0.length l0) (hc0 : l0.length ≤ c0) (h : wigwagref09_Flight.f k l0 = some r) :
    Calls Try.prog 18 #[.slice A0 l0.length c0] w fun e w' => e = .returned (.int .u64 r) ∧ Drawn0 w w' := by
  have HR0 := Aside0.mk hr0
  have HC0 := Aside0.mk hc0
  clear hr0 hc0
  have H : (wigwagref09_Flight.l0 k l0 0 0) = some r := h
  clear h
  have H' := Aside0.mk H
  clear H
  go_enter Try.func18, Try.ntmps18
  go_wp2
  go_loopg [3, 4] k (fun kq v3 v4 w' => ∃ (x3_1 : Int) (x4_1 : Int), v3 = .int .u64 x3_1 ∧ v4 = .int .i64 x4_1 ∧ Aside0 (wigwagref09_Flight.l0 kq l0 x3_1 x4_1 = some r) ∧ Aside0 (kq ≤ k) ∧ Drawn0 w w')
  case atStart => exact ⟨(0), (0), (by first | rfl | (simp; done) | (simp [*]; done)), (by first | rfl | (simp; done) | (simp [*]; done)), H', ⟨Nat.le_refl _⟩, by repeat (first | exact Drawn0.refl _ | apply Drawn0.step)⟩
  case round =>
    clear H'
    try clear c1
    obtain ⟨x3_1, x4_1, rfl, rfl, HA, HK1, ⟨m1, rfl⟩⟩ := hrel
    cases gk with
    | zero => exact absurd HA.out (by simp [wigwagref09_Flight.l0])
    | succ k1 =>
      have H := HA.out
      clear HA
      simp only [wigwagref09_Flight.l0] at H
      by_cases c2 : x4_1 < (l0.length : Int)
      · rw [if_pos c2] at H
        have c2b0 : decide (x4_1 < (l0.length : Int)) = true := decide_eq_true c2
        clear c2
        by_cases c3 : 0 ≤ x4_1
        · rw [if_pos c3] at H
          have c3b0 : decide (0 ≤ x4_1) = true := decide_eq_true c3
          clear c3
          replace H := Option.bind_eq_some_iff.mp H
          obtain ⟨t413, A40, H⟩ := H
          replace H : (wigwagref09_Flight.l0 k1 l0 t413 (wrap64 (x4_1 + 1))) = some r := H
          have A4 := Aside0.mk A40
          clear A40
          have H' := Aside0.mk H
          clear H
          have p412 : 0 ≤ (x4_1 : Int) := of_decide_eq_true (by first | (with_reducible assumption) | assumption)
          have q412 : x4_1 < (l0.length : Int) := of_decide_eq_true (by first | (with_reducible assumption) | assumption)
          obtain ⟨ad412, e412, hx412_0, hx412_1, hx412_2, hx412_3⟩ := at_T37 HR0.out x4_1 p412 q412
          cases e412
          replace p412 := eq_true p412
          replace q412 := eq_true q412
          go_wp2_with (first | ((with_reducible refine gate_callee (f := 23) rfl ?_); refine goesL_ (some 17) rfl rfl Try.func23 (by kernel_rfl) rfl #[.int .u64 x3_1, .int .u64 ((rd_T37 l0 x4_1).f2)] rfl (by (try simp only [List.map_toArray, List.map_cons, List.map_nil]); first | done | rfl | (simp only [List.length_drop, List.length_take]; rfl)) ?_; (with_reducible refine (wigwagref01_Add.calls x3_1 ((rd_T37 l0 x4_1).f2) t413 _ A4.out).mono ?_); rintro e w' ⟨rfl, ⟨nd, rfl⟩⟩; refine ⟨_, rfl, ?_⟩))
          go_roundg k1
          case measure => have := HK1.out; omega
          case rel => exact ⟨(t413), (wrap64 (x4_1 + 1)), (by first | rfl | (simp; done) | (simp [*]; done)), (by first | rfl | (simp; done) | (simp [*]; done)), H', ⟨by have := HK1.out; omega⟩, by repeat (first | exact Drawn0.refl _ | apply Drawn0.step)⟩
        · rw [if_neg c3] at H
          exact absurd H (by simp)
      · rw [if_neg c2] at H
        have c2b0 : decide (x4_1 < (l0.length : Int)) = false := decide_eq_false c2
        clear c2
        obtain rfl := Option.some.inj H
        go_wp2
        go_ret
        exact ⟨by first | rfl | (simp; done) | (simp [*]; done), by repeat (first | exact Drawn0.refl _ | apply Drawn0.step)⟩

end Go.Proofs.Ytfgmikhlplbmeaa.P
