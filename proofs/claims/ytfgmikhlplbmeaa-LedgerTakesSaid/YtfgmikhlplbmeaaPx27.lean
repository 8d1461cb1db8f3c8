-- Printed for this claim by xprint.py of this session: contracts of this session's own stand in for what the print does not take
import Derived.Test.YtfgmikhlplbmeaaPx0
import Derived.Test.YtfgmikhlplbmeaaPx4
import Derived.Test.YtfgmikhlplbmeaaPx5
import Derived.Test.YtfgmikhlplbmeaaPx6
import Derived.Test.YtfgmikhlplbmeaaPx12
import Derived.Test.YtfgmikhlplbmeaaPx13
import Derived.Test.YtfgmikhlplbmeaaPx19
import Derived.Test.YtfgmikhlplbmeaaPx25
import Derived.Test.YtfgmikhlplbmeaaPx26
namespace Go.Proofs.Ytfgmikhlplbmeaa.P
open Go.RowKit Go.Proofs.YtfgmikhlplbmeaaW.PrintWords Go.Proofs.YtfgmikhlplbmeaaW.PrintLast Go.Proofs.YtfgmikhlplbmeaaW.PrintMore
attribute [local go_sem] max2_int min2_int max_two min_two max_three min_three max_four min_four   -- for this text's walks alone
set_option linter.unusedVariables false
set_option linter.unusedSimpArgs false

/-! ### wigwaglaw09_LedgerTakes: function 3 -/
def wigwaglaw09_LedgerTakes.j0 : Nat → List (S37) → List (S43) → Bool → Bool → Option (Bool)
  | 0, _, _, _, _ => none
  | k + 1, x0, x1, x5, x20 => if x20 = true then (some x5) else ((ledger_Take.f k x0 x1).bind fun bt416 => ((wigwagref09_Take.f k x0 x1).bind fun bt422 => ((wigwagref09_Same.f k bt416.1 bt422.1).bind fun t428 => ((wigwagref09_Same.f k bt416.2 bt422.2).bind fun t429 => (if x5 = true then (if t428 = true then (if t429 = true then ((ledger_Check.f k x0).bind fun t430 => ((wigwagref09_Check.f k x0).bind fun t431 => (if (t430 == t431) = true then ((ledger_Flight.f k x0).bind fun t432 => ((wigwagref09_Flight.f k x0).bind fun t433 => (some (t432 == t433)))) else (some false)))) else (some false)) else (some false)) else (some false))))))
def wigwaglaw09_LedgerTakes.f (k : Nat) (l0 : List (S37)) (l1 : List (S43)) : Option (Bool) := (wigwaglaw09_awake.f k).bind fun t414 => ((wigwaglaw09_few.f l0).bind fun t415 => (if t415 = true then (wigwaglaw09_LedgerTakes.j0 k l0 l1 t414 (decide ((l1.length : Int) > 50))) else (wigwaglaw09_LedgerTakes.j0 k l0 l1 t414 true)))
theorem wigwaglaw09_LedgerTakes.mono_l : ∀ k, (∀ y0 y1 y2 y3, LeO (wigwaglaw09_LedgerTakes.j0 k y0 y1 y2 y3) (wigwaglaw09_LedgerTakes.j0 (k + 1) y0 y1 y2 y3))
  | 0 => fun _ _ _ _ r h => by simp [wigwaglaw09_LedgerTakes.j0] at h
  | k + 1 => by
    have ih0 := wigwaglaw09_LedgerTakes.mono_l k
    · intro y0 y1 y2 y3
      unfold wigwaglaw09_LedgerTakes.j0
      repeat' first
      | (with_reducible exact ih0 _ _ _ _)
      | (with_reducible exact ledger_Check.mono _ _)
      | (with_reducible exact ledger_Flight.mono _ _)
      | (with_reducible exact ledger_Take.mono _ _ _)
      | (with_reducible exact wigwaglaw09_awake.mono _)
      | (with_reducible exact wigwagref09_Check.mono _ _)
      | (with_reducible exact wigwagref09_Flight.mono _ _)
      | (with_reducible exact wigwagref09_Same.mono _ _ _)
      | (with_reducible exact wigwagref09_Take.mono _ _ _)
      | (with_reducible exact LeO.refl _)
      | (with_reducible exact LeO.none _)
      | (with_reducible refine LeO.ite ?_ ?_)
      | (with_reducible refine LeO.bind ?_ (fun _ => ?_))
      | exact ih0 _ _ _ _
      | exact ledger_Check.mono _ _
      | exact ledger_Flight.mono _ _
      | exact ledger_Take.mono _ _ _
      | exact wigwaglaw09_awake.mono _
      | exact wigwagref09_Check.mono _ _
      | exact wigwagref09_Flight.mono _ _
      | exact wigwagref09_Same.mono _ _ _
      | exact wigwagref09_Take.mono _ _ _
      | exact LeO.none _
      | refine LeO.ite ?_ ?_
      | refine LeO.bind ?_ (fun _ => ?_)
theorem wigwaglaw09_LedgerTakes.mono : ∀ a0 a1 k, LeO (wigwaglaw09_LedgerTakes.f k a0 a1) (wigwaglaw09_LedgerTakes.f (k + 1) a0 a1) := by
  intro a0 a1 k
  have ih0 := wigwaglaw09_LedgerTakes.mono_l k
  unfold wigwaglaw09_LedgerTakes.f
  repeat' first
      | (with_reducible exact ih0 _ _ _ _)
      | (with_reducible exact ledger_Check.mono _ _)
      | (with_reducible exact ledger_Flight.mono _ _)
      | (with_reducible exact ledger_Take.mono _ _ _)
      | (with_reducible exact wigwaglaw09_awake.mono _)
      | (with_reducible exact wigwagref09_Check.mono _ _)
      | (with_reducible exact wigwagref09_Flight.mono _ _)
      | (with_reducible exact wigwagref09_Same.mono _ _ _)
      | (with_reducible exact wigwagref09_Take.mono _ _ _)
      | (with_reducible exact LeO.refl _)
      | (with_reducible exact LeO.none _)
      | (with_reducible refine LeO.ite ?_ ?_)
      | (with_reducible refine LeO.bind ?_ (fun _ => ?_))
      | exact ih0 _ _ _ _
      | exact ledger_Check.mono _ _
      | exact ledger_Flight.mono _ _
      | exact ledger_Take.mono _ _ _
      | exact wigwaglaw09_awake.mono _
      | exact wigwagref09_Check.mono _ _
      | exact wigwagref09_Flight.mono _ _
      | exact wigwagref09_Same.mono _ _ _
      | exact wigwagref09_Take.mono _ _ _
      | exact LeO.none _
      | refine LeO.ite ?_ ?_
      | refine LeO.bind ?_ (fun _ => ?_)
set_option maxHeartbeats 8000000 in
set_option maxRecDepth 100000 in
theorem wigwaglaw09_LedgerTakes.calls (k : Nat) (A0 : Option Addr) (c0 : Nat) (l0 : List (S37)) (A1 : Option Addr) (c1 : Nat) (l1 : List (S43)) (r : Bool) (w : World) (hr0 : Kd.C k37 w A0 l0.length l0) (hc0 : l0.length ≤ c0) (hr1 : Kd.C k43 w A1 l1.length l1) (hc1 : l1.length ≤ c1) (h : wigwaglaw09_LedgerTakes.f k l0 l1 = some r) :
    Calls Try.prog 3 #[.slice A0 l0.length c0, .slice A1 l1.length c1] w fun e w' => e = .returned (.bool r) ∧ Below w.heap.size w w' := by
  have HR0 := Aside0.mk hr0
  have HC0 := Aside0.mk hc0
  clear hr0 hc0
  have HR1 := Aside0.mk hr1
  have HC1 := Aside0.mk hc1
  clear hr1 hc1
  have HB := Aside0.mk (Below.refl w.heap.size w)
  have H : ((wigwaglaw09_awake.f k).bind fun t414 => ((wigwaglaw09_few.f l0).bind fun t415 => (if t415 = true then (wigwaglaw09_LedgerTakes.j0 k l0 l1 t414 (decide ((l1.length : Int) > 50))) else (wigwaglaw09_LedgerTakes.j0 k l0 l1 t414 true)))) = some r := h
  clear h
  replace H := Option.bind_eq_some_iff.mp H
  obtain ⟨t414, A30, H⟩ := H
  replace H : ((wigwaglaw09_few.f l0).bind fun t415 => (if t415 = true then (wigwaglaw09_LedgerTakes.j0 k l0 l1 t414 (decide ((l1.length : Int) > 50))) else (wigwaglaw09_LedgerTakes.j0 k l0 l1 t414 true))) = some r := H
  have A3 := Aside0.mk A30
  clear A30
  have HC4 := Aside0.mk H
  clear H
  go_enter Try.func3, Try.ntmps3
  go_upto_region 2 with (first | ((with_reducible refine gate_callee (f := 10) rfl ?_); refine goesL_ (some 12) rfl rfl Try.func10 (by kernel_rfl) rfl #[] rfl (by (try simp only [List.map_toArray, List.map_cons, List.map_nil]); first | done | rfl | (simp only [List.length_drop, List.length_take]; rfl)) ?_; (with_reducible refine (wigwaglaw09_awake.calls k  t414 _ A3.out).mono ?_); rintro e w5 ⟨rfl, hb⟩; refine ⟨_, rfl, ?_⟩; have n0_ := Aside0.mk (below_step (by repeat (first | (with_reducible first | exact HB.out | apply below_alloc | apply pw_below_drewN | apply below_drew1) | exact HB.out)) hb); clear HB; have HB := n0_; clear n0_; (try clear hb); (try clear hb2); (try clear hk); (try clear hi)))
  (try simp only [Act.put, List.setIfInBounds_toArray, List.set_cons_zero, List.set_cons_succ])
  go_cut [20] (fun v20 wc => ∃ (kq : Nat) (x20_3 : Bool), v20 = .bool x20_3 ∧ Aside0 (wigwaglaw09_LedgerTakes.j0 kq l0 l1 t414 x20_3 = some r) ∧ Aside0 (kq ≤ k) ∧ Aside0 (Below w.heap.size w wc))
  case first =>
    have H := HC4.out
    clear HC4
    replace H := Option.bind_eq_some_iff.mp H
    obtain ⟨t415, A60, H⟩ := H
    replace H : (if t415 = true then (wigwaglaw09_LedgerTakes.j0 k l0 l1 t414 (decide ((l1.length : Int) > 50))) else (wigwaglaw09_LedgerTakes.j0 k l0 l1 t414 true)) = some r := H
    have A6 := Aside0.mk A60
    clear A60
    by_cases c7 : t415 = true
    · subst c7
      have H1 : (wigwaglaw09_LedgerTakes.j0 k l0 l1 t414 (decide ((l1.length : Int) > 50))) = some r := by rw [if_pos rfl] at H; exact H
      clear H
      have H := H1
      clear H1
      have H' := Aside0.mk H
      clear H
      go_wp2_with (first | ((with_reducible refine gate_callee (f := 11) rfl ?_); refine goesL_ (some 14) rfl rfl Try.func11 (by kernel_rfl) rfl #[.slice A0 l0.length c0] rfl (by (try simp only [List.map_toArray, List.map_cons, List.map_nil]); first | done | rfl | (simp only [List.length_drop, List.length_take]; rfl)) ?_; (with_reducible refine (wigwaglaw09_few.calls _ _ l0 true _ ?side1 ?side2 A6.out).mono ?_); (case side1 => repeat (first | exact (Kd.C_below HR0.out HB.out) | (with_reducible refine Kd.C_alloc ?_ _) | (with_reducible refine Kd.C_drewN ?_ _) | (with_reducible refine Kd.C_drew ?_))); (case side2 => exact HC0.out); rintro e w' ⟨rfl, ⟨nd, rfl⟩⟩; refine ⟨_, rfl, ?_⟩))
      go_meet
      case rel => exact ⟨_, (decide ((l1.length : Int) > 50)), (by first | rfl | (simp; done) | (simp [*]; done)), H', ⟨by first | omega | exact Nat.le_refl _⟩, ⟨by repeat (first | (with_reducible first | exact HB.out | apply below_alloc | apply pw_below_drewN | apply below_drew1) | exact HB.out)⟩⟩
    · replace c7 := Bool.eq_false_iff.mpr c7
      subst c7
      have H1 : (wigwaglaw09_LedgerTakes.j0 k l0 l1 t414 true) = some r := by rw [if_neg (show ¬ (false = true) by decide)] at H; exact H
      clear H
      have H := H1
      clear H1
      have H' := Aside0.mk H
      clear H
      go_wp2_with (first | ((with_reducible refine gate_callee (f := 11) rfl ?_); refine goesL_ (some 14) rfl rfl Try.func11 (by kernel_rfl) rfl #[.slice A0 l0.length c0] rfl (by (try simp only [List.map_toArray, List.map_cons, List.map_nil]); first | done | rfl | (simp only [List.length_drop, List.length_take]; rfl)) ?_; (with_reducible refine (wigwaglaw09_few.calls _ _ l0 false _ ?side1 ?side2 A6.out).mono ?_); (case side1 => repeat (first | exact (Kd.C_below HR0.out HB.out) | (with_reducible refine Kd.C_alloc ?_ _) | (with_reducible refine Kd.C_drewN ?_ _) | (with_reducible refine Kd.C_drew ?_))); (case side2 => exact HC0.out); rintro e w' ⟨rfl, ⟨nd, rfl⟩⟩; refine ⟨_, rfl, ?_⟩))
      go_meet
      case rel => exact ⟨_, (true), (by first | rfl | (simp; done) | (simp [*]; done)), H', ⟨by first | omega | exact Nat.le_refl _⟩, ⟨by repeat (first | (with_reducible first | exact HB.out | apply below_alloc | apply pw_below_drewN | apply below_drew1) | exact HB.out)⟩⟩
  case rest =>
    clear HC4
    try clear c1
    try clear p2
    try clear c3
    try clear c7
    obtain ⟨kq, x20_3, rfl, HA, HJ3, HB⟩ := hcut
    cases kq with
    | zero => exact absurd HA.out (by simp [wigwaglaw09_LedgerTakes.j0])
    | succ kj3 =>
      have H := HA.out
      clear HA
      simp only [wigwaglaw09_LedgerTakes.j0] at H
      by_cases c8 : x20_3 = true
      · subst c8
        have H1 : (some t414) = some r := by rw [if_pos rfl] at H; exact H
        clear H
        have H := H1
        clear H1
        obtain rfl := Option.some.inj H
        go_wp2
        go_ret
        exact ⟨by first | rfl | (simp [errW_none, errW_some] <;> rfl) | (simp [*, errW_none, errW_some] <;> rfl), by repeat (first | (with_reducible first | exact HB.out | apply below_alloc | apply pw_below_drewN | apply below_drew1) | exact HB.out)⟩
      · replace c8 := Bool.eq_false_iff.mpr c8
        subst c8
        have H1 : ((ledger_Take.f kj3 l0 l1).bind fun bt416 => ((wigwagref09_Take.f kj3 l0 l1).bind fun bt422 => ((wigwagref09_Same.f kj3 bt416.1 bt422.1).bind fun t428 => ((wigwagref09_Same.f kj3 bt416.2 bt422.2).bind fun t429 => (if t414 = true then (if t428 = true then (if t429 = true then ((ledger_Check.f kj3 l0).bind fun t430 => ((wigwagref09_Check.f kj3 l0).bind fun t431 => (if (t430 == t431) = true then ((ledger_Flight.f kj3 l0).bind fun t432 => ((wigwagref09_Flight.f kj3 l0).bind fun t433 => (some (t432 == t433)))) else (some false)))) else (some false)) else (some false)) else (some false)))))) = some r := by rw [if_neg (show ¬ (false = true) by decide)] at H; exact H
        clear H
        have H := H1
        clear H1
        replace H := Option.bind_eq_some_iff.mp H
        obtain ⟨⟨t416, t417⟩, A90, H⟩ := H
        replace H : ((wigwagref09_Take.f kj3 l0 l1).bind fun bt422 => ((wigwagref09_Same.f kj3 t416 bt422.1).bind fun t428 => ((wigwagref09_Same.f kj3 t417 bt422.2).bind fun t429 => (if t414 = true then (if t428 = true then (if t429 = true then ((ledger_Check.f kj3 l0).bind fun t430 => ((wigwagref09_Check.f kj3 l0).bind fun t431 => (if (t430 == t431) = true then ((ledger_Flight.f kj3 l0).bind fun t432 => ((wigwagref09_Flight.f kj3 l0).bind fun t433 => (some (t432 == t433)))) else (some false)))) else (some false)) else (some false)) else (some false))))) = some r := H
        have A9 := Aside0.mk A90
        clear A90
        replace H := Option.bind_eq_some_iff.mp H
        obtain ⟨⟨t422, t423⟩, A100, H⟩ := H
        replace H : ((wigwagref09_Same.f kj3 t416 t422).bind fun t428 => ((wigwagref09_Same.f kj3 t417 t423).bind fun t429 => (if t414 = true then (if t428 = true then (if t429 = true then ((ledger_Check.f kj3 l0).bind fun t430 => ((wigwagref09_Check.f kj3 l0).bind fun t431 => (if (t430 == t431) = true then ((ledger_Flight.f kj3 l0).bind fun t432 => ((wigwagref09_Flight.f kj3 l0).bind fun t433 => (some (t432 == t433)))) else (some false)))) else (some false)) else (some false)) else (some false)))) = some r := H
        have A10 := Aside0.mk A100
        clear A100
        replace H := Option.bind_eq_some_iff.mp H
        obtain ⟨t428, A110, H⟩ := H
        replace H : ((wigwagref09_Same.f kj3 t417 t423).bind fun t429 => (if t414 = true then (if t428 = true then (if t429 = true then ((ledger_Check.f kj3 l0).bind fun t430 => ((wigwagref09_Check.f kj3 l0).bind fun t431 => (if (t430 == t431) = true then ((ledger_Flight.f kj3 l0).bind fun t432 => ((wigwagref09_Flight.f kj3 l0).bind fun t433 => (some (t432 == t433)))) else (some false)))) else (some false)) else (some false)) else (some false))) = some r := H
        have A11 := Aside0.mk A110
        clear A110
        replace H := Option.bind_eq_some_iff.mp H
        obtain ⟨t429, A120, H⟩ := H
        replace H : (if t414 = true then (if t428 = true then (if t429 = true then ((ledger_Check.f kj3 l0).bind fun t430 => ((wigwagref09_Check.f kj3 l0).bind fun t431 => (if (t430 == t431) = true then ((ledger_Flight.f kj3 l0).bind fun t432 => ((wigwagref09_Flight.f kj3 l0).bind fun t433 => (some (t432 == t433)))) else (some false)))) else (some false)) else (some false)) else (some false)) = some r := H
        have A12 := Aside0.mk A120
        clear A120
        have HS13 := Aside0.mk H
        clear H
        go_upto_region 8 with (first | ((with_reducible refine gate_callee (f := 12) rfl ?_); refine goesL_ (some 25) rfl rfl Try.func12 (by kernel_rfl) rfl #[.slice A0 l0.length c0, .slice A1 l1.length c1] rfl (by (try simp only [List.map_toArray, List.map_cons, List.map_nil]); first | done | rfl | (simp only [List.length_drop, List.length_take]; rfl)) ?_; (with_reducible refine (ledger_Take.calls kj3 _ _ l0 _ _ l1 t416 t417 _ ?side1 ?side2 ?side3 ?side4 A9.out).mono ?_); (case side1 => repeat (first | exact (Kd.C_below HR0.out HB.out) | (with_reducible refine Kd.C_alloc ?_ _) | (with_reducible refine Kd.C_drewN ?_ _) | (with_reducible refine Kd.C_drew ?_))); (case side2 => exact HC0.out); (case side3 => repeat (first | exact (Kd.C_below HR1.out HB.out) | (with_reducible refine Kd.C_alloc ?_ _) | (with_reducible refine Kd.C_drewN ?_ _) | (with_reducible refine Kd.C_drew ?_))); (case side4 => exact HC1.out); rintro e w14 ⟨v418, v420, rfl, ho0, ho1, hb⟩; refine ⟨_, rfl, ?_⟩; have n0_ := Aside0.mk (Kd.R_lower ho0 (below_size (by repeat (first | (with_reducible first | exact HB.out | apply below_alloc | apply pw_below_drewN | apply below_drew1) | exact HB.out)))); have n1_ := Aside0.mk (Kd.R_lower ho1 (below_size (by repeat (first | (with_reducible first | exact HB.out | apply below_alloc | apply pw_below_drewN | apply below_drew1) | exact HB.out)))); have n2_ := Aside0.mk (below_step (by repeat (first | (with_reducible first | exact HB.out | apply below_alloc | apply pw_below_drewN | apply below_drew1) | exact HB.out)) hb); clear HB; have HO419 := n0_; have HO421 := n1_; have HB := n2_; clear n0_ n1_ n2_; (try clear hb); (try clear hb2); (try clear hk); (try clear hi); (try clear ho0); (try clear ho1)) | ((with_reducible refine gate_callee (f := 13) rfl ?_); refine goesL_ (some 31) rfl rfl Try.func13 (by kernel_rfl) rfl #[.slice A0 l0.length c0, .slice A1 l1.length c1] rfl (by (try simp only [List.map_toArray, List.map_cons, List.map_nil]); first | done | rfl | (simp only [List.length_drop, List.length_take]; rfl)) ?_; (with_reducible refine (wigwagref09_Take.calls kj3 _ _ l0 _ _ l1 t422 t423 _ ?side1 ?side2 ?side3 ?side4 A10.out).mono ?_); (case side1 => repeat (first | exact (Kd.C_below HR0.out HB.out) | (with_reducible refine Kd.C_alloc ?_ _) | (with_reducible refine Kd.C_drewN ?_ _) | (with_reducible refine Kd.C_drew ?_))); (case side2 => exact HC0.out); (case side3 => repeat (first | exact (Kd.C_below HR1.out HB.out) | (with_reducible refine Kd.C_alloc ?_ _) | (with_reducible refine Kd.C_drewN ?_ _) | (with_reducible refine Kd.C_drew ?_))); (case side4 => exact HC1.out); rintro e w15 ⟨v424, v426, rfl, ho0, ho1, hb⟩; refine ⟨_, rfl, ?_⟩; have n0_ := Aside0.mk (Kd.R_mono (Kd.R_told (Kd.R_told (Kd.R_old (by (with_reducible repeat (first | apply Kd.R_alloc | apply Kd.R_drewN | apply Kd.R_drew)); exact HO419.out) hb) (Kd.R_base ho0)) (Kd.R_base ho1)) (fun _ h_ => h_.1)); have n1_ := Aside0.mk (Kd.R_mono (Kd.R_told (Kd.R_told (Kd.R_old (by (with_reducible repeat (first | apply Kd.R_alloc | apply Kd.R_drewN | apply Kd.R_drew)); exact HO421.out) hb) (Kd.R_base ho0)) (Kd.R_base ho1)) (fun _ h_ => h_.1)); have n2_ := Aside0.mk (Kd.R_lower (Kd.R_new' (Kd.R_new' ho0 (Kd.R_lt (by (with_reducible repeat (first | apply Kd.R_alloc | apply Kd.R_drewN | apply Kd.R_drew)); exact HO419.out))) (Kd.R_lt (by (with_reducible repeat (first | apply Kd.R_alloc | apply Kd.R_drewN | apply Kd.R_drew)); exact HO421.out))) (below_size (by repeat (first | (with_reducible first | exact HB.out | apply below_alloc | apply pw_below_drewN | apply below_drew1) | exact HB.out)))); have n3_ := Aside0.mk (Kd.R_lower (Kd.R_new' (Kd.R_new' ho1 (Kd.R_lt (by (with_reducible repeat (first | apply Kd.R_alloc | apply Kd.R_drewN | apply Kd.R_drew)); exact HO419.out))) (Kd.R_lt (by (with_reducible repeat (first | apply Kd.R_alloc | apply Kd.R_drewN | apply Kd.R_drew)); exact HO421.out))) (below_size (by repeat (first | (with_reducible first | exact HB.out | apply below_alloc | apply pw_below_drewN | apply below_drew1) | exact HB.out)))); have n4_ := Aside0.mk (below_step (by repeat (first | (with_reducible first | exact HB.out | apply below_alloc | apply pw_below_drewN | apply below_drew1) | exact HB.out)) hb); clear HO419; clear HO421; clear HB; have HO419 := n0_; have HO421 := n1_; have HO425 := n2_; have HO427 := n3_; have HB := n4_; clear n0_ n1_ n2_ n3_ n4_; (try clear hb); (try clear hb2); (try clear hk); (try clear hi); (try clear ho0); (try clear ho1); obtain ⟨Ao16, co16, eo16⟩ := Kd.R_slice HO419.out; subst eo16; obtain ⟨Ao17, co17, eo17⟩ := Kd.R_slice HO425.out; subst eo17) | ((with_reducible refine gate_callee (f := 14) rfl ?_); refine goesL_ (some 36) rfl rfl Try.func14 (by kernel_rfl) rfl #[.slice Ao16 t416.length co16, .slice Ao17 t422.length co17] rfl (by (try simp only [List.map_toArray, List.map_cons, List.map_nil]); first | done | rfl | (simp only [List.length_drop, List.length_take]; rfl)) ?_; (with_reducible refine (wigwagref09_Same.calls kj3 _ _ t416 _ _ t422 t428 _ ?side1 ?side2 ?side3 ?side4 A11.out).mono ?_); (case side1 => repeat (first | exact (Kd.R_reads' HO419.out).2.2 | (with_reducible refine Kd.C_alloc ?_ _) | (with_reducible refine Kd.C_drewN ?_ _) | (with_reducible refine Kd.C_drew ?_))); (case side2 => exact (Kd.R_reads' HO419.out).2.1); (case side3 => repeat (first | exact (Kd.R_reads' HO425.out).2.2 | (with_reducible refine Kd.C_alloc ?_ _) | (with_reducible refine Kd.C_drewN ?_ _) | (with_reducible refine Kd.C_drew ?_))); (case side4 => exact (Kd.R_reads' HO425.out).2.1); rintro e w' ⟨rfl, ⟨nd, rfl⟩⟩; refine ⟨_, rfl, ?_⟩; obtain ⟨Ao18, co18, eo18⟩ := Kd.R_slice HO421.out; subst eo18; obtain ⟨Ao19, co19, eo19⟩ := Kd.R_slice HO427.out; subst eo19) | ((with_reducible refine gate_callee (f := 14) rfl ?_); refine goesL_ (some 39) rfl rfl Try.func14 (by kernel_rfl) rfl #[.slice Ao18 t417.length co18, .slice Ao19 t423.length co19] rfl (by (try simp only [List.map_toArray, List.map_cons, List.map_nil]); first | done | rfl | (simp only [List.length_drop, List.length_take]; rfl)) ?_; (with_reducible refine (wigwagref09_Same.calls kj3 _ _ t417 _ _ t423 t429 _ ?side1 ?side2 ?side3 ?side4 A12.out).mono ?_); (case side1 => repeat (first | exact (Kd.R_reads' HO421.out).2.2 | (with_reducible refine Kd.C_alloc ?_ _) | (with_reducible refine Kd.C_drewN ?_ _) | (with_reducible refine Kd.C_drew ?_))); (case side2 => exact (Kd.R_reads' HO421.out).2.1); (case side3 => repeat (first | exact (Kd.R_reads' HO427.out).2.2 | (with_reducible refine Kd.C_alloc ?_ _) | (with_reducible refine Kd.C_drewN ?_ _) | (with_reducible refine Kd.C_drew ?_))); (case side4 => exact (Kd.R_reads' HO427.out).2.1); rintro e w' ⟨rfl, ⟨nd, rfl⟩⟩; refine ⟨_, rfl, ?_⟩))
        (try simp only [Act.put, List.setIfInBounds_toArray, List.set_cons_zero, List.set_cons_succ])
        have H := HS13.out
        clear HS13
        by_cases c20 : t414 = true
        · subst c20
          have H1 : (if t428 = true then (if t429 = true then ((ledger_Check.f kj3 l0).bind fun t430 => ((wigwagref09_Check.f kj3 l0).bind fun t431 => (if (t430 == t431) = true then ((ledger_Flight.f kj3 l0).bind fun t432 => ((wigwagref09_Flight.f kj3 l0).bind fun t433 => (some (t432 == t433)))) else (some false)))) else (some false)) else (some false)) = some r := by rw [if_pos rfl] at H; exact H
          clear H
          have H := H1
          clear H1
          by_cases c21 : t428 = true
          · subst c21
            have H1 : (if t429 = true then ((ledger_Check.f kj3 l0).bind fun t430 => ((wigwagref09_Check.f kj3 l0).bind fun t431 => (if (t430 == t431) = true then ((ledger_Flight.f kj3 l0).bind fun t432 => ((wigwagref09_Flight.f kj3 l0).bind fun t433 => (some (t432 == t433)))) else (some false)))) else (some false)) = some r := by rw [if_pos rfl] at H; exact H
            clear H
            have H := H1
            clear H1
            by_cases c22 : t429 = true
            · subst c22
              have H1 : ((ledger_Check.f kj3 l0).bind fun t430 => ((wigwagref09_Check.f kj3 l0).bind fun t431 => (if (t430 == t431) = true then ((ledger_Flight.f kj3 l0).bind fun t432 => ((wigwagref09_Flight.f kj3 l0).bind fun t433 => (some (t432 == t433)))) else (some false)))) = some r := by rw [if_pos rfl] at H; exact H
              clear H
              have H := H1
              clear H1
              replace H := Option.bind_eq_some_iff.mp H
              obtain ⟨t430, A230, H⟩ := H
              replace H : ((wigwagref09_Check.f kj3 l0).bind fun t431 => (if (t430 == t431) = true then ((ledger_Flight.f kj3 l0).bind fun t432 => ((wigwagref09_Flight.f kj3 l0).bind fun t433 => (some (t432 == t433)))) else (some false))) = some r := H
              have A23 := Aside0.mk A230
              clear A230
              replace H := Option.bind_eq_some_iff.mp H
              obtain ⟨t431, A240, H⟩ := H
              replace H : (if (t430 == t431) = true then ((ledger_Flight.f kj3 l0).bind fun t432 => ((wigwagref09_Flight.f kj3 l0).bind fun t433 => (some (t432 == t433)))) else (some false)) = some r := H
              have A24 := Aside0.mk A240
              clear A240
              by_cases c25 : (t430 == t431) = true
              · rw [if_pos c25] at H
                have c25b0 : (t430 == t431) = true := c25
                (try (have c25b1 : decide (t430 = t431) = true := by simpa using c25))
                (try (have c25b2 : (t430 == t431) = true := by simpa using c25))
                clear c25
                replace H := Option.bind_eq_some_iff.mp H
                obtain ⟨t432, A260, H⟩ := H
                replace H : ((wigwagref09_Flight.f kj3 l0).bind fun t433 => (some (t432 == t433))) = some r := H
                have A26 := Aside0.mk A260
                clear A260
                replace H := Option.bind_eq_some_iff.mp H
                obtain ⟨t433, A270, H⟩ := H
                replace H : (some (t432 == t433)) = some r := H
                have A27 := Aside0.mk A270
                clear A270
                obtain rfl := Option.some.inj H
                go_wp2_with (first | (go_at_call 15; (with_reducible refine (ledger_Check.calls kj3 _ _ l0 t430 _ ?side1 ?side2 A23.out).mono ?_); (case side1 => repeat (first | exact (Kd.C_below HR0.out HB.out) | (with_reducible refine Kd.C_alloc ?_ _) | (with_reducible refine Kd.C_drewN ?_ _) | (with_reducible refine Kd.C_drew ?_))); (case side2 => exact HC0.out); rintro e w' ⟨rfl, ⟨nd, rfl⟩⟩) | (go_at_call 16; (with_reducible refine (wigwagref09_Check.calls kj3 _ _ l0 t431 _ ?side1 ?side2 A24.out).mono ?_); (case side1 => repeat (first | exact (Kd.C_below HR0.out (by repeat (first | (with_reducible first | exact HB.out | apply below_alloc | apply pw_below_drewN | apply below_drew1) | exact HB.out))) | (with_reducible refine Kd.C_alloc ?_ _) | (with_reducible refine Kd.C_drewN ?_ _) | (with_reducible refine Kd.C_drew ?_))); (case side2 => exact HC0.out); rintro e w' ⟨rfl, ⟨nd, rfl⟩⟩) | (go_at_call 17; (with_reducible refine (ledger_Flight.calls kj3 _ _ l0 t432 _ ?side1 ?side2 A26.out).mono ?_); (case side1 => repeat (first | exact (Kd.C_below HR0.out (by repeat (first | (with_reducible first | exact HB.out | apply below_alloc | apply pw_below_drewN | apply below_drew1) | exact HB.out))) | (with_reducible refine Kd.C_alloc ?_ _) | (with_reducible refine Kd.C_drewN ?_ _) | (with_reducible refine Kd.C_drew ?_))); (case side2 => exact HC0.out); rintro e w28 ⟨rfl, hb⟩; have n0_ := Aside0.mk (Kd.R_below (by (with_reducible repeat (first | apply Kd.R_alloc | apply Kd.R_drewN | apply Kd.R_drew)); exact HO419.out) hb); have n1_ := Aside0.mk (Kd.R_below (by (with_reducible repeat (first | apply Kd.R_alloc | apply Kd.R_drewN | apply Kd.R_drew)); exact HO421.out) hb); have n2_ := Aside0.mk (Kd.R_below (by (with_reducible repeat (first | apply Kd.R_alloc | apply Kd.R_drewN | apply Kd.R_drew)); exact HO425.out) hb); have n3_ := Aside0.mk (Kd.R_below (by (with_reducible repeat (first | apply Kd.R_alloc | apply Kd.R_drewN | apply Kd.R_drew)); exact HO427.out) hb); have n4_ := Aside0.mk (below_step (by repeat (first | (with_reducible first | exact HB.out | apply below_alloc | apply pw_below_drewN | apply below_drew1) | exact HB.out)) hb); clear HO419; clear HO421; clear HO425; clear HO427; clear HB; have HO419 := n0_; have HO421 := n1_; have HO425 := n2_; have HO427 := n3_; have HB := n4_; clear n0_ n1_ n2_ n3_ n4_; (try clear hb); (try clear hb2); (try clear hk); (try clear hi)) | (go_at_call 18; (with_reducible refine (wigwagref09_Flight.calls kj3 _ _ l0 t433 _ ?side1 ?side2 A27.out).mono ?_); (case side1 => repeat (first | exact (Kd.C_below HR0.out HB.out) | (with_reducible refine Kd.C_alloc ?_ _) | (with_reducible refine Kd.C_drewN ?_ _) | (with_reducible refine Kd.C_drew ?_))); (case side2 => exact HC0.out); rintro e w' ⟨rfl, ⟨nd, rfl⟩⟩))
                go_ret
                exact ⟨by first | rfl | (simp [errW_none, errW_some] <;> rfl) | (simp [*, errW_none, errW_some] <;> rfl), by repeat (first | (with_reducible first | exact HB.out | apply below_alloc | apply pw_below_drewN | apply below_drew1) | exact HB.out)⟩
              · rw [if_neg c25] at H
                have c25b0 : (t430 == t431) = false := by simpa using c25
                (try (have c25b1 : decide (t430 = t431) = false := by simpa using c25))
                (try (have c25b2 : (t430 == t431) = false := by simpa using c25))
                (try (have c25b3 : ¬ (t430 = t431) := by simpa using c25))
                clear c25
                obtain rfl := Option.some.inj H
                go_wp2_with (first | (go_at_call 15; (with_reducible refine (ledger_Check.calls kj3 _ _ l0 t430 _ ?side1 ?side2 A23.out).mono ?_); (case side1 => repeat (first | exact (Kd.C_below HR0.out HB.out) | (with_reducible refine Kd.C_alloc ?_ _) | (with_reducible refine Kd.C_drewN ?_ _) | (with_reducible refine Kd.C_drew ?_))); (case side2 => exact HC0.out); rintro e w' ⟨rfl, ⟨nd, rfl⟩⟩) | (go_at_call 16; (with_reducible refine (wigwagref09_Check.calls kj3 _ _ l0 t431 _ ?side1 ?side2 A24.out).mono ?_); (case side1 => repeat (first | exact (Kd.C_below HR0.out (by repeat (first | (with_reducible first | exact HB.out | apply below_alloc | apply pw_below_drewN | apply below_drew1) | exact HB.out))) | (with_reducible refine Kd.C_alloc ?_ _) | (with_reducible refine Kd.C_drewN ?_ _) | (with_reducible refine Kd.C_drew ?_))); (case side2 => exact HC0.out); rintro e w' ⟨rfl, ⟨nd, rfl⟩⟩))
                go_ret
                exact ⟨by first | rfl | (simp [errW_none, errW_some] <;> rfl) | (simp [*, errW_none, errW_some] <;> rfl), by repeat (first | (with_reducible first | exact HB.out | apply below_alloc | apply pw_below_drewN | apply below_drew1) | exact HB.out)⟩
            · replace c22 := Bool.eq_false_iff.mpr c22
              subst c22
              have H1 : (some false) = some r := by rw [if_neg (show ¬ (false = true) by decide)] at H; exact H
              clear H
              have H := H1
              clear H1
              obtain rfl := Option.some.inj H
              go_wp2
              go_ret
              exact ⟨by first | rfl | (simp [errW_none, errW_some] <;> rfl) | (simp [*, errW_none, errW_some] <;> rfl), by repeat (first | (with_reducible first | exact HB.out | apply below_alloc | apply pw_below_drewN | apply below_drew1) | exact HB.out)⟩
          · replace c21 := Bool.eq_false_iff.mpr c21
            subst c21
            have H1 : (some false) = some r := by rw [if_neg (show ¬ (false = true) by decide)] at H; exact H
            clear H
            have H := H1
            clear H1
            obtain rfl := Option.some.inj H
            go_wp2
            go_ret
            exact ⟨by first | rfl | (simp [errW_none, errW_some] <;> rfl) | (simp [*, errW_none, errW_some] <;> rfl), by repeat (first | (with_reducible first | exact HB.out | apply below_alloc | apply pw_below_drewN | apply below_drew1) | exact HB.out)⟩
        · replace c20 := Bool.eq_false_iff.mpr c20
          subst c20
          have H1 : (some false) = some r := by rw [if_neg (show ¬ (false = true) by decide)] at H; exact H
          clear H
          have H := H1
          clear H1
          obtain rfl := Option.some.inj H
          go_wp2
          go_ret
          exact ⟨by first | rfl | (simp [errW_none, errW_some] <;> rfl) | (simp [*, errW_none, errW_some] <;> rfl), by repeat (first | (with_reducible first | exact HB.out | apply below_alloc | apply pw_below_drewN | apply below_drew1) | exact HB.out)⟩

end Go.Proofs.Ytfgmikhlplbmeaa.P
