-- Printed for this claim by xprint.py of this session: contracts of this session's own stand in for what the print does not take
import Derived.Test.YtfgmikhlplbmeaaPx0
import Derived.Test.YtfgmikhlplbmeaaPx4
import Derived.Test.YtfgmikhlplbmeaaPx10
import Derived.Test.YtfgmikhlplbmeaaPx12
import Derived.Test.YtfgmikhlplbmeaaPx13
namespace Go.Proofs.Ytfgmikhlplbmeaa.P
open Go.RowKit Go.Proofs.YtfgmikhlplbmeaaW.PrintWords Go.Proofs.YtfgmikhlplbmeaaW.PrintLast Go.Proofs.YtfgmikhlplbmeaaW.PrintMore
attribute [local go_sem] max2_int min2_int max_two min_two max_three min_three max_four min_four   -- for this text's walks alone
set_option linter.unusedVariables false
set_option linter.unusedSimpArgs false

/-! ### wigwaglaw09_LedgerAgain: function 8 -/
def wigwaglaw09_LedgerAgain.j0 : Nat → List (S37) → List (S43) → Int → Int → Int → Bool → Bool → Option (Bool)
  | 0, _, _, _, _, _, _, _ => none
  | k + 1, x0, x1, x2, x3, x4, x11, x35 => if x35 = true then (some x11) else ((ledger_Take.f k x0 x1).bind fun bt225 => ((ledger_Take.f k bt225.1 x1).bind fun bt231 => ((ledger_Take.f k bt225.2 x1).bind fun bt237 => ((ledger_Lost.f k x0 x2 x3 x4).bind fun bt243 => ((ledger_Lost.f k bt243.2.1 x2 x3 x4).bind fun bt250 => ((ledger_Lost.f k bt243.1 x2 x3 x4).bind fun bt257 => (if x11 = true then (if (bt231.1.length : Int) = (bt225.1.length : Int) then (if (bt231.2.length : Int) = 0 then (if (bt237.1.length : Int) = 0 then (if (bt237.2.length : Int) = (bt225.2.length : Int) then (if (bt250.1.length : Int) = 0 then (if (bt250.2.1.length : Int) = (bt243.2.1.length : Int) then (if bt243.2.2 = bt250.2.2 then (if (bt257.1.length : Int) = (bt243.1.length : Int) then (some ((bt257.2.1.length : Int) == 0)) else (some false)) else (some false)) else (some false)) else (some false)) else (some false)) else (some false)) else (some false)) else (some false)) else (some false))))))))
def wigwaglaw09_LedgerAgain.f (k : Nat) (l0 : List (S37)) (l1 : List (S43)) (a2 : Int) (a3 : Int) (a4 : Int) : Option (Bool) := (wigwaglaw09_awake.f k).bind fun t223 => ((wigwaglaw09_few.f l0).bind fun t224 => (if t224 = true then (wigwaglaw09_LedgerAgain.j0 k l0 l1 a2 a3 a4 t223 (decide ((l1.length : Int) > 50))) else (wigwaglaw09_LedgerAgain.j0 k l0 l1 a2 a3 a4 t223 true)))
theorem wigwaglaw09_LedgerAgain.mono_l : ∀ k, (∀ y0 y1 y2 y3 y4 y5 y6, LeO (wigwaglaw09_LedgerAgain.j0 k y0 y1 y2 y3 y4 y5 y6) (wigwaglaw09_LedgerAgain.j0 (k + 1) y0 y1 y2 y3 y4 y5 y6))
  | 0 => fun _ _ _ _ _ _ _ r h => by simp [wigwaglaw09_LedgerAgain.j0] at h
  | k + 1 => by
    have ih0 := wigwaglaw09_LedgerAgain.mono_l k
    · intro y0 y1 y2 y3 y4 y5 y6
      unfold wigwaglaw09_LedgerAgain.j0
      repeat' first
      | (with_reducible exact ih0 _ _ _ _ _ _ _)
      | (with_reducible exact ledger_Lost.mono _ _ _ _ _)
      | (with_reducible exact ledger_Take.mono _ _ _)
      | (with_reducible exact wigwaglaw09_awake.mono _)
      | (with_reducible exact LeO.refl _)
      | (with_reducible exact LeO.none _)
      | (with_reducible refine LeO.ite ?_ ?_)
      | (with_reducible refine LeO.bind ?_ (fun _ => ?_))
      | exact ih0 _ _ _ _ _ _ _
      | exact ledger_Lost.mono _ _ _ _ _
      | exact ledger_Take.mono _ _ _
      | exact wigwaglaw09_awake.mono _
      | exact LeO.none _
      | refine LeO.ite ?_ ?_
      | refine LeO.bind ?_ (fun _ => ?_)
theorem wigwaglaw09_LedgerAgain.mono : ∀ a0 a1 a2 a3 a4 k, LeO (wigwaglaw09_LedgerAgain.f k a0 a1 a2 a3 a4) (wigwaglaw09_LedgerAgain.f (k + 1) a0 a1 a2 a3 a4) := by
  intro a0 a1 a2 a3 a4 k
  have ih0 := wigwaglaw09_LedgerAgain.mono_l k
  unfold wigwaglaw09_LedgerAgain.f
  repeat' first
      | (with_reducible exact ih0 _ _ _ _ _ _ _)
      | (with_reducible exact ledger_Lost.mono _ _ _ _ _)
      | (with_reducible exact ledger_Take.mono _ _ _)
      | (with_reducible exact wigwaglaw09_awake.mono _)
      | (with_reducible exact LeO.refl _)
      | (with_reducible exact LeO.none _)
      | (with_reducible refine LeO.ite ?_ ?_)
      | (with_reducible refine LeO.bind ?_ (fun _ => ?_))
      | exact ih0 _ _ _ _ _ _ _
      | exact ledger_Lost.mono _ _ _ _ _
      | exact ledger_Take.mono _ _ _
      | exact wigwaglaw09_awake.mono _
      | exact LeO.none _
      | refine LeO.ite ?_ ?_
      | refine LeO.bind ?_ (fun _ => ?_)
set_option maxHeartbeats 8000000 in
set_option maxRecDepth 100000 in
theorem wigwaglaw09_LedgerAgain.calls (k : Nat) (A0 : Option Addr) (c0 : Nat) (l0 : List (S37)) (A1 : Option Addr) (c1 : Nat) (l1 : List (S43)) (a2 : Int) (a3 : Int) (a4 : Int) (r : Bool) (w : World) (hr0 : Kd.C k37 w A0 l0.length l0) (hc0 : l0.length ≤ c0) (hr1 : Kd.C k43 w A1 l1.length l1) (hc1 : l1.length ≤ c1) (h : wigwaglaw09_LedgerAgain.f k l0 l1 a2 a3 a4 = some r) :
    Calls Try.prog 8 #[.slice A0 l0.length c0, .slice A1 l1.length c1, .int .u64 a2, .int .u64 a3, .int .u64 a4] w fun e w' => e = .returned (.bool r) ∧ Below w.heap.size w w' := by
  have HR0 := Aside0.mk hr0
  have HC0 := Aside0.mk hc0
  clear hr0 hc0
  have HR1 := Aside0.mk hr1
  have HC1 := Aside0.mk hc1
  clear hr1 hc1
  have HB := Aside0.mk (Below.refl w.heap.size w)
  have H : ((wigwaglaw09_awake.f k).bind fun t223 => ((wigwaglaw09_few.f l0).bind fun t224 => (if t224 = true then (wigwaglaw09_LedgerAgain.j0 k l0 l1 a2 a3 a4 t223 (decide ((l1.length : Int) > 50))) else (wigwaglaw09_LedgerAgain.j0 k l0 l1 a2 a3 a4 t223 true)))) = some r := h
  clear h
  replace H := Option.bind_eq_some_iff.mp H
  obtain ⟨t223, A60, H⟩ := H
  replace H : ((wigwaglaw09_few.f l0).bind fun t224 => (if t224 = true then (wigwaglaw09_LedgerAgain.j0 k l0 l1 a2 a3 a4 t223 (decide ((l1.length : Int) > 50))) else (wigwaglaw09_LedgerAgain.j0 k l0 l1 a2 a3 a4 t223 true))) = some r := H
  have A6 := Aside0.mk A60
  clear A60
  have HC7 := Aside0.mk H
  clear H
  go_enter Try.func8, Try.ntmps8
  go_upto_region 2 with (first | ((with_reducible refine gate_callee (f := 10) rfl ?_); refine goesL_ (some 27) rfl rfl Try.func10 (by kernel_rfl) rfl #[] rfl (by (try simp only [List.map_toArray, List.map_cons, List.map_nil]); first | done | rfl | (simp only [List.length_drop, List.length_take]; rfl)) ?_; (with_reducible refine (wigwaglaw09_awake.calls k  t223 _ A6.out).mono ?_); rintro e w8 ⟨rfl, hb⟩; refine ⟨_, rfl, ?_⟩; have n0_ := Aside0.mk (below_step (by repeat (first | (with_reducible first | exact HB.out | apply below_alloc | apply pw_below_drewN | apply below_drew1) | exact HB.out)) hb); clear HB; have HB := n0_; clear n0_; (try clear hb); (try clear hb2); (try clear hk); (try clear hi)))
  (try simp only [Act.put, List.setIfInBounds_toArray, List.set_cons_zero, List.set_cons_succ])
  go_cut [35] (fun v35 wc => ∃ (kq : Nat) (x35_6 : Bool), v35 = .bool x35_6 ∧ Aside0 (wigwaglaw09_LedgerAgain.j0 kq l0 l1 a2 a3 a4 t223 x35_6 = some r) ∧ Aside0 (kq ≤ k) ∧ Aside0 (Below w.heap.size w wc))
  case first =>
    have H := HC7.out
    clear HC7
    replace H := Option.bind_eq_some_iff.mp H
    obtain ⟨t224, A90, H⟩ := H
    replace H : (if t224 = true then (wigwaglaw09_LedgerAgain.j0 k l0 l1 a2 a3 a4 t223 (decide ((l1.length : Int) > 50))) else (wigwaglaw09_LedgerAgain.j0 k l0 l1 a2 a3 a4 t223 true)) = some r := H
    have A9 := Aside0.mk A90
    clear A90
    by_cases c10 : t224 = true
    · subst c10
      have H1 : (wigwaglaw09_LedgerAgain.j0 k l0 l1 a2 a3 a4 t223 (decide ((l1.length : Int) > 50))) = some r := by rw [if_pos rfl] at H; exact H
      clear H
      have H := H1
      clear H1
      have H' := Aside0.mk H
      clear H
      go_wp2_with (first | ((with_reducible refine gate_callee (f := 11) rfl ?_); refine goesL_ (some 29) rfl rfl Try.func11 (by kernel_rfl) rfl #[.slice A0 l0.length c0] rfl (by (try simp only [List.map_toArray, List.map_cons, List.map_nil]); first | done | rfl | (simp only [List.length_drop, List.length_take]; rfl)) ?_; (with_reducible refine (wigwaglaw09_few.calls _ _ l0 true _ ?side1 ?side2 A9.out).mono ?_); (case side1 => repeat (first | exact (Kd.C_below HR0.out HB.out) | (with_reducible refine Kd.C_alloc ?_ _) | (with_reducible refine Kd.C_drewN ?_ _) | (with_reducible refine Kd.C_drew ?_))); (case side2 => exact HC0.out); rintro e w' ⟨rfl, ⟨nd, rfl⟩⟩; refine ⟨_, rfl, ?_⟩))
      go_meet
      case rel => exact ⟨_, (decide ((l1.length : Int) > 50)), (by first | rfl | (simp; done) | (simp [*]; done)), H', ⟨by first | omega | exact Nat.le_refl _⟩, ⟨by repeat (first | (with_reducible first | exact HB.out | apply below_alloc | apply pw_below_drewN | apply below_drew1) | exact HB.out)⟩⟩
    · replace c10 := Bool.eq_false_iff.mpr c10
      subst c10
      have H1 : (wigwaglaw09_LedgerAgain.j0 k l0 l1 a2 a3 a4 t223 true) = some r := by rw [if_neg (show ¬ (false = true) by decide)] at H; exact H
      clear H
      have H := H1
      clear H1
      have H' := Aside0.mk H
      clear H
      go_wp2_with (first | ((with_reducible refine gate_callee (f := 11) rfl ?_); refine goesL_ (some 29) rfl rfl Try.func11 (by kernel_rfl) rfl #[.slice A0 l0.length c0] rfl (by (try simp only [List.map_toArray, List.map_cons, List.map_nil]); first | done | rfl | (simp only [List.length_drop, List.length_take]; rfl)) ?_; (with_reducible refine (wigwaglaw09_few.calls _ _ l0 false _ ?side1 ?side2 A9.out).mono ?_); (case side1 => repeat (first | exact (Kd.C_below HR0.out HB.out) | (with_reducible refine Kd.C_alloc ?_ _) | (with_reducible refine Kd.C_drewN ?_ _) | (with_reducible refine Kd.C_drew ?_))); (case side2 => exact HC0.out); rintro e w' ⟨rfl, ⟨nd, rfl⟩⟩; refine ⟨_, rfl, ?_⟩))
      go_meet
      case rel => exact ⟨_, (true), (by first | rfl | (simp; done) | (simp [*]; done)), H', ⟨by first | omega | exact Nat.le_refl _⟩, ⟨by repeat (first | (with_reducible first | exact HB.out | apply below_alloc | apply pw_below_drewN | apply below_drew1) | exact HB.out)⟩⟩
  case rest =>
    clear HC7
    try clear c1
    try clear p2
    try clear c8
    try clear c10
    obtain ⟨kq, x35_6, rfl, HA, HJ6, HB⟩ := hcut
    cases kq with
    | zero => exact absurd HA.out (by simp [wigwaglaw09_LedgerAgain.j0])
    | succ kj6 =>
      have H := HA.out
      clear HA
      simp only [wigwaglaw09_LedgerAgain.j0] at H
      by_cases c11 : x35_6 = true
      · subst c11
        have H1 : (some t223) = some r := by rw [if_pos rfl] at H; exact H
        clear H
        have H := H1
        clear H1
        obtain rfl := Option.some.inj H
        go_wp2
        go_ret
        exact ⟨by first | rfl | (simp [errW_none, errW_some] <;> rfl) | (simp [*, errW_none, errW_some] <;> rfl), by repeat (first | (with_reducible first | exact HB.out | apply below_alloc | apply pw_below_drewN | apply below_drew1) | exact HB.out)⟩
      · replace c11 := Bool.eq_false_iff.mpr c11
        subst c11
        have H1 : ((ledger_Take.f kj6 l0 l1).bind fun bt225 => ((ledger_Take.f kj6 bt225.1 l1).bind fun bt231 => ((ledger_Take.f kj6 bt225.2 l1).bind fun bt237 => ((ledger_Lost.f kj6 l0 a2 a3 a4).bind fun bt243 => ((ledger_Lost.f kj6 bt243.2.1 a2 a3 a4).bind fun bt250 => ((ledger_Lost.f kj6 bt243.1 a2 a3 a4).bind fun bt257 => (if t223 = true then (if (bt231.1.length : Int) = (bt225.1.length : Int) then (if (bt231.2.length : Int) = 0 then (if (bt237.1.length : Int) = 0 then (if (bt237.2.length : Int) = (bt225.2.length : Int) then (if (bt250.1.length : Int) = 0 then (if (bt250.2.1.length : Int) = (bt243.2.1.length : Int) then (if bt243.2.2 = bt250.2.2 then (if (bt257.1.length : Int) = (bt243.1.length : Int) then (some ((bt257.2.1.length : Int) == 0)) else (some false)) else (some false)) else (some false)) else (some false)) else (some false)) else (some false)) else (some false)) else (some false)) else (some false)))))))) = some r := by rw [if_neg (show ¬ (false = true) by decide)] at H; exact H
        clear H
        have H := H1
        clear H1
        replace H := Option.bind_eq_some_iff.mp H
        obtain ⟨⟨t225, t226⟩, A120, H⟩ := H
        replace H : ((ledger_Take.f kj6 t225 l1).bind fun bt231 => ((ledger_Take.f kj6 t226 l1).bind fun bt237 => ((ledger_Lost.f kj6 l0 a2 a3 a4).bind fun bt243 => ((ledger_Lost.f kj6 bt243.2.1 a2 a3 a4).bind fun bt250 => ((ledger_Lost.f kj6 bt243.1 a2 a3 a4).bind fun bt257 => (if t223 = true then (if (bt231.1.length : Int) = (t225.length : Int) then (if (bt231.2.length : Int) = 0 then (if (bt237.1.length : Int) = 0 then (if (bt237.2.length : Int) = (t226.length : Int) then (if (bt250.1.length : Int) = 0 then (if (bt250.2.1.length : Int) = (bt243.2.1.length : Int) then (if bt243.2.2 = bt250.2.2 then (if (bt257.1.length : Int) = (bt243.1.length : Int) then (some ((bt257.2.1.length : Int) == 0)) else (some false)) else (some false)) else (some false)) else (some false)) else (some false)) else (some false)) else (some false)) else (some false)) else (some false))))))) = some r := H
        have A12 := Aside0.mk A120
        clear A120
        replace H := Option.bind_eq_some_iff.mp H
        obtain ⟨⟨t231, t232⟩, A130, H⟩ := H
        replace H : ((ledger_Take.f kj6 t226 l1).bind fun bt237 => ((ledger_Lost.f kj6 l0 a2 a3 a4).bind fun bt243 => ((ledger_Lost.f kj6 bt243.2.1 a2 a3 a4).bind fun bt250 => ((ledger_Lost.f kj6 bt243.1 a2 a3 a4).bind fun bt257 => (if t223 = true then (if (t231.length : Int) = (t225.length : Int) then (if (t232.length : Int) = 0 then (if (bt237.1.length : Int) = 0 then (if (bt237.2.length : Int) = (t226.length : Int) then (if (bt250.1.length : Int) = 0 then (if (bt250.2.1.length : Int) = (bt243.2.1.length : Int) then (if bt243.2.2 = bt250.2.2 then (if (bt257.1.length : Int) = (bt243.1.length : Int) then (some ((bt257.2.1.length : Int) == 0)) else (some false)) else (some false)) else (some false)) else (some false)) else (some false)) else (some false)) else (some false)) else (some false)) else (some false)))))) = some r := H
        have A13 := Aside0.mk A130
        clear A130
        replace H := Option.bind_eq_some_iff.mp H
        obtain ⟨⟨t237, t238⟩, A140, H⟩ := H
        replace H : ((ledger_Lost.f kj6 l0 a2 a3 a4).bind fun bt243 => ((ledger_Lost.f kj6 bt243.2.1 a2 a3 a4).bind fun bt250 => ((ledger_Lost.f kj6 bt243.1 a2 a3 a4).bind fun bt257 => (if t223 = true then (if (t231.length : Int) = (t225.length : Int) then (if (t232.length : Int) = 0 then (if (t237.length : Int) = 0 then (if (t238.length : Int) = (t226.length : Int) then (if (bt250.1.length : Int) = 0 then (if (bt250.2.1.length : Int) = (bt243.2.1.length : Int) then (if bt243.2.2 = bt250.2.2 then (if (bt257.1.length : Int) = (bt243.1.length : Int) then (some ((bt257.2.1.length : Int) == 0)) else (some false)) else (some false)) else (some false)) else (some false)) else (some false)) else (some false)) else (some false)) else (some false)) else (some false))))) = some r := H
        have A14 := Aside0.mk A140
        clear A140
        replace H := Option.bind_eq_some_iff.mp H
        obtain ⟨⟨t243, t244, t245⟩, A150, H⟩ := H
        replace H : ((ledger_Lost.f kj6 t244 a2 a3 a4).bind fun bt250 => ((ledger_Lost.f kj6 t243 a2 a3 a4).bind fun bt257 => (if t223 = true then (if (t231.length : Int) = (t225.length : Int) then (if (t232.length : Int) = 0 then (if (t237.length : Int) = 0 then (if (t238.length : Int) = (t226.length : Int) then (if (bt250.1.length : Int) = 0 then (if (bt250.2.1.length : Int) = (t244.length : Int) then (if t245 = bt250.2.2 then (if (bt257.1.length : Int) = (t243.length : Int) then (some ((bt257.2.1.length : Int) == 0)) else (some false)) else (some false)) else (some false)) else (some false)) else (some false)) else (some false)) else (some false)) else (some false)) else (some false)))) = some r := H
        have A15 := Aside0.mk A150
        clear A150
        replace H := Option.bind_eq_some_iff.mp H
        obtain ⟨⟨t250, t251, t252⟩, A160, H⟩ := H
        replace H : ((ledger_Lost.f kj6 t243 a2 a3 a4).bind fun bt257 => (if t223 = true then (if (t231.length : Int) = (t225.length : Int) then (if (t232.length : Int) = 0 then (if (t237.length : Int) = 0 then (if (t238.length : Int) = (t226.length : Int) then (if (t250.length : Int) = 0 then (if (t251.length : Int) = (t244.length : Int) then (if t245 = t252 then (if (bt257.1.length : Int) = (t243.length : Int) then (some ((bt257.2.1.length : Int) == 0)) else (some false)) else (some false)) else (some false)) else (some false)) else (some false)) else (some false)) else (some false)) else (some false)) else (some false))) = some r := H
        have A16 := Aside0.mk A160
        clear A160
        replace H := Option.bind_eq_some_iff.mp H
        obtain ⟨⟨t257, t258, t259⟩, A170, H⟩ := H
        replace H : (if t223 = true then (if (t231.length : Int) = (t225.length : Int) then (if (t232.length : Int) = 0 then (if (t237.length : Int) = 0 then (if (t238.length : Int) = (t226.length : Int) then (if (t250.length : Int) = 0 then (if (t251.length : Int) = (t244.length : Int) then (if t245 = t252 then (if (t257.length : Int) = (t243.length : Int) then (some ((t258.length : Int) == 0)) else (some false)) else (some false)) else (some false)) else (some false)) else (some false)) else (some false)) else (some false)) else (some false)) else (some false)) = some r := H
        have A17 := Aside0.mk A170
        clear A170
        have HS18 := Aside0.mk H
        clear H
        go_upto_region 10 with (first | ((with_reducible refine gate_callee (f := 12) rfl ?_); refine goesL_ (some 40) rfl rfl Try.func12 (by kernel_rfl) rfl #[.slice A0 l0.length c0, .slice A1 l1.length c1] rfl (by (try simp only [List.map_toArray, List.map_cons, List.map_nil]); first | done | rfl | (simp only [List.length_drop, List.length_take]; rfl)) ?_; (with_reducible refine (ledger_Take.calls kj6 _ _ l0 _ _ l1 t225 t226 _ ?side1 ?side2 ?side3 ?side4 A12.out).mono ?_); (case side1 => repeat (first | exact (Kd.C_below HR0.out HB.out) | (with_reducible refine Kd.C_alloc ?_ _) | (with_reducible refine Kd.C_drewN ?_ _) | (with_reducible refine Kd.C_drew ?_))); (case side2 => exact HC0.out); (case side3 => repeat (first | exact (Kd.C_below HR1.out HB.out) | (with_reducible refine Kd.C_alloc ?_ _) | (with_reducible refine Kd.C_drewN ?_ _) | (with_reducible refine Kd.C_drew ?_))); (case side4 => exact HC1.out); rintro e w19 ⟨v227, v229, rfl, ho0, ho1, hb⟩; refine ⟨_, rfl, ?_⟩; have n0_ := Aside0.mk (Kd.R_lower ho0 (below_size (by repeat (first | (with_reducible first | exact HB.out | apply below_alloc | apply pw_below_drewN | apply below_drew1) | exact HB.out)))); have n1_ := Aside0.mk (Kd.R_lower ho1 (below_size (by repeat (first | (with_reducible first | exact HB.out | apply below_alloc | apply pw_below_drewN | apply below_drew1) | exact HB.out)))); have n2_ := Aside0.mk (below_step (by repeat (first | (with_reducible first | exact HB.out | apply below_alloc | apply pw_below_drewN | apply below_drew1) | exact HB.out)) hb); clear HB; have HO228 := n0_; have HO230 := n1_; have HB := n2_; clear n0_ n1_ n2_; (try clear hb); (try clear hb2); (try clear hk); (try clear hi); (try clear ho0); (try clear ho1); obtain ⟨Ao20, co20, eo20⟩ := Kd.R_slice HO228.out; subst eo20) | ((with_reducible refine gate_callee (f := 12) rfl ?_); refine goesL_ (some 46) rfl rfl Try.func12 (by kernel_rfl) rfl #[.slice Ao20 t225.length co20, .slice A1 l1.length c1] rfl (by (try simp only [List.map_toArray, List.map_cons, List.map_nil]); first | done | rfl | (simp only [List.length_drop, List.length_take]; rfl)) ?_; (with_reducible refine (ledger_Take.calls kj6 _ _ t225 _ _ l1 t231 t232 _ ?side1 ?side2 ?side3 ?side4 A13.out).mono ?_); (case side1 => repeat (first | exact (Kd.R_reads' HO228.out).2.2 | (with_reducible refine Kd.C_alloc ?_ _) | (with_reducible refine Kd.C_drewN ?_ _) | (with_reducible refine Kd.C_drew ?_))); (case side2 => exact (Kd.R_reads' HO228.out).2.1); (case side3 => repeat (first | exact (Kd.C_below HR1.out HB.out) | (with_reducible refine Kd.C_alloc ?_ _) | (with_reducible refine Kd.C_drewN ?_ _) | (with_reducible refine Kd.C_drew ?_))); (case side4 => exact HC1.out); rintro e w21 ⟨v233, v235, rfl, ho0, ho1, hb⟩; refine ⟨_, rfl, ?_⟩; have n0_ := Aside0.mk (Kd.R_mono (Kd.R_told (Kd.R_told (Kd.R_old (by (with_reducible repeat (first | apply Kd.R_alloc | apply Kd.R_drewN | apply Kd.R_drew)); exact HO228.out) hb) (Kd.R_base ho0)) (Kd.R_base ho1)) (fun _ h_ => h_.1)); have n1_ := Aside0.mk (Kd.R_mono (Kd.R_told (Kd.R_told (Kd.R_old (by (with_reducible repeat (first | apply Kd.R_alloc | apply Kd.R_drewN | apply Kd.R_drew)); exact HO230.out) hb) (Kd.R_base ho0)) (Kd.R_base ho1)) (fun _ h_ => h_.1)); have n2_ := Aside0.mk (Kd.R_lower (Kd.R_new' (Kd.R_new' ho0 (Kd.R_lt (by (with_reducible repeat (first | apply Kd.R_alloc | apply Kd.R_drewN | apply Kd.R_drew)); exact HO228.out))) (Kd.R_lt (by (with_reducible repeat (first | apply Kd.R_alloc | apply Kd.R_drewN | apply Kd.R_drew)); exact HO230.out))) (below_size (by repeat (first | (with_reducible first | exact HB.out | apply below_alloc | apply pw_below_drewN | apply below_drew1) | exact HB.out)))); have n3_ := Aside0.mk (Kd.R_lower (Kd.R_new' (Kd.R_new' ho1 (Kd.R_lt (by (with_reducible repeat (first | apply Kd.R_alloc | apply Kd.R_drewN | apply Kd.R_drew)); exact HO228.out))) (Kd.R_lt (by (with_reducible repeat (first | apply Kd.R_alloc | apply Kd.R_drewN | apply Kd.R_drew)); exact HO230.out))) (below_size (by repeat (first | (with_reducible first | exact HB.out | apply below_alloc | apply pw_below_drewN | apply below_drew1) | exact HB.out)))); have n4_ := Aside0.mk (below_step (by repeat (first | (with_reducible first | exact HB.out | apply below_alloc | apply pw_below_drewN | apply below_drew1) | exact HB.out)) hb); clear HO228; clear HO230; clear HB; have HO228 := n0_; have HO230 := n1_; have HO234 := n2_; have HO236 := n3_; have HB := n4_; clear n0_ n1_ n2_ n3_ n4_; (try clear hb); (try clear hb2); (try clear hk); (try clear hi); (try clear ho0); (try clear ho1); obtain ⟨Ao22, co22, eo22⟩ := Kd.R_slice HO230.out; subst eo22) | ((with_reducible refine gate_callee (f := 12) rfl ?_); refine goesL_ (some 52) rfl rfl Try.func12 (by kernel_rfl) rfl #[.slice Ao22 t226.length co22, .slice A1 l1.length c1] rfl (by (try simp only [List.map_toArray, List.map_cons, List.map_nil]); first | done | rfl | (simp only [List.length_drop, List.length_take]; rfl)) ?_; (with_reducible refine (ledger_Take.calls kj6 _ _ t226 _ _ l1 t237 t238 _ ?side1 ?side2 ?side3 ?side4 A14.out).mono ?_); (case side1 => repeat (first | exact (Kd.R_reads' HO230.out).2.2 | (with_reducible refine Kd.C_alloc ?_ _) | (with_reducible refine Kd.C_drewN ?_ _) | (with_reducible refine Kd.C_drew ?_))); (case side2 => exact (Kd.R_reads' HO230.out).2.1); (case side3 => repeat (first | exact (Kd.C_below HR1.out HB.out) | (with_reducible refine Kd.C_alloc ?_ _) | (with_reducible refine Kd.C_drewN ?_ _) | (with_reducible refine Kd.C_drew ?_))); (case side4 => exact HC1.out); rintro e w23 ⟨v239, v241, rfl, ho0, ho1, hb⟩; refine ⟨_, rfl, ?_⟩; have n0_ := Aside0.mk (Kd.R_mono (Kd.R_told (Kd.R_told (Kd.R_old (by (with_reducible repeat (first | apply Kd.R_alloc | apply Kd.R_drewN | apply Kd.R_drew)); exact HO228.out) hb) (Kd.R_base ho0)) (Kd.R_base ho1)) (fun _ h_ => h_.1)); have n1_ := Aside0.mk (Kd.R_mono (Kd.R_told (Kd.R_told (Kd.R_old (by (with_reducible repeat (first | apply Kd.R_alloc | apply Kd.R_drewN | apply Kd.R_drew)); exact HO230.out) hb) (Kd.R_base ho0)) (Kd.R_base ho1)) (fun _ h_ => h_.1)); have n2_ := Aside0.mk (Kd.R_mono (Kd.R_told (Kd.R_told (Kd.R_old (by (with_reducible repeat (first | apply Kd.R_alloc | apply Kd.R_drewN | apply Kd.R_drew)); exact HO234.out) hb) (Kd.R_base ho0)) (Kd.R_base ho1)) (fun _ h_ => h_.1)); have n3_ := Aside0.mk (Kd.R_mono (Kd.R_told (Kd.R_told (Kd.R_old (by (with_reducible repeat (first | apply Kd.R_alloc | apply Kd.R_drewN | apply Kd.R_drew)); exact HO236.out) hb) (Kd.R_base ho0)) (Kd.R_base ho1)) (fun _ h_ => h_.1)); have n4_ := Aside0.mk (Kd.R_lower (Kd.R_new' (Kd.R_new' (Kd.R_new' (Kd.R_new' ho0 (Kd.R_lt (by (with_reducible repeat (first | apply Kd.R_alloc | apply Kd.R_drewN | apply Kd.R_drew)); exact HO228.out))) (Kd.R_lt (by (with_reducible repeat (first | apply Kd.R_alloc | apply Kd.R_drewN | apply Kd.R_drew)); exact HO230.out))) (Kd.R_lt (by (with_reducible repeat (first | apply Kd.R_alloc | apply Kd.R_drewN | apply Kd.R_drew)); exact HO234.out))) (Kd.R_lt (by (with_reducible repeat (first | apply Kd.R_alloc | apply Kd.R_drewN | apply Kd.R_drew)); exact HO236.out))) (below_size (by repeat (first | (with_reducible first | exact HB.out | apply below_alloc | apply pw_below_drewN | apply below_drew1) | exact HB.out)))); have n5_ := Aside0.mk (Kd.R_lower (Kd.R_new' (Kd.R_new' (Kd.R_new' (Kd.R_new' ho1 (Kd.R_lt (by (with_reducible repeat (first | apply Kd.R_alloc | apply Kd.R_drewN | apply Kd.R_drew)); exact HO228.out))) (Kd.R_lt (by (with_reducible repeat (first | apply Kd.R_alloc | apply Kd.R_drewN | apply Kd.R_drew)); exact HO230.out))) (Kd.R_lt (by (with_reducible repeat (first | apply Kd.R_alloc | apply Kd.R_drewN | apply Kd.R_drew)); exact HO234.out))) (Kd.R_lt (by (with_reducible repeat (first | apply Kd.R_alloc | apply Kd.R_drewN | apply Kd.R_drew)); exact HO236.out))) (below_size (by repeat (first | (with_reducible first | exact HB.out | apply below_alloc | apply pw_below_drewN | apply below_drew1) | exact HB.out)))); have n6_ := Aside0.mk (below_step (by repeat (first | (with_reducible first | exact HB.out | apply below_alloc | apply pw_below_drewN | apply below_drew1) | exact HB.out)) hb); clear HO228; clear HO230; clear HO234; clear HO236; clear HB; have HO228 := n0_; have HO230 := n1_; have HO234 := n2_; have HO236 := n3_; have HO240 := n4_; have HO242 := n5_; have HB := n6_; clear n0_ n1_ n2_ n3_ n4_ n5_ n6_; (try clear hb); (try clear hb2); (try clear hk); (try clear hi); (try clear ho0); (try clear ho1)) | ((with_reducible refine gate_callee (f := 19) rfl ?_); refine goesL_ (some 60) rfl rfl Try.func19 (by kernel_rfl) rfl #[.slice A0 l0.length c0, .int .u64 a2, .int .u64 a3, .int .u64 a4] rfl (by (try simp only [List.map_toArray, List.map_cons, List.map_nil]); first | done | rfl | (simp only [List.length_drop, List.length_take]; rfl)) ?_; (with_reducible refine (ledger_Lost.calls kj6 _ _ l0 a2 a3 a4 t243 t244 t245 _ ?side1 ?side2 A15.out).mono ?_); (case side1 => repeat (first | exact (Kd.C_below HR0.out HB.out) | (with_reducible refine Kd.C_alloc ?_ _) | (with_reducible refine Kd.C_drewN ?_ _) | (with_reducible refine Kd.C_drew ?_))); (case side2 => exact HC0.out); rintro e w24 ⟨v246, v248, rfl, ho0, ho1, hb⟩; refine ⟨_, rfl, ?_⟩; have n0_ := Aside0.mk (Kd.R_mono (Kd.R_told (Kd.R_told (Kd.R_old (by (with_reducible repeat (first | apply Kd.R_alloc | apply Kd.R_drewN | apply Kd.R_drew)); exact HO228.out) hb) (Kd.R_base ho0)) (Kd.R_base ho1)) (fun _ h_ => h_.1)); have n1_ := Aside0.mk (Kd.R_mono (Kd.R_told (Kd.R_told (Kd.R_old (by (with_reducible repeat (first | apply Kd.R_alloc | apply Kd.R_drewN | apply Kd.R_drew)); exact HO230.out) hb) (Kd.R_base ho0)) (Kd.R_base ho1)) (fun _ h_ => h_.1)); have n2_ := Aside0.mk (Kd.R_mono (Kd.R_told (Kd.R_told (Kd.R_old (by (with_reducible repeat (first | apply Kd.R_alloc | apply Kd.R_drewN | apply Kd.R_drew)); exact HO234.out) hb) (Kd.R_base ho0)) (Kd.R_base ho1)) (fun _ h_ => h_.1)); have n3_ := Aside0.mk (Kd.R_mono (Kd.R_told (Kd.R_told (Kd.R_old (by (with_reducible repeat (first | apply Kd.R_alloc | apply Kd.R_drewN | apply Kd.R_drew)); exact HO236.out) hb) (Kd.R_base ho0)) (Kd.R_base ho1)) (fun _ h_ => h_.1)); have n4_ := Aside0.mk (Kd.R_mono (Kd.R_told (Kd.R_told (Kd.R_old (by (with_reducible repeat (first | apply Kd.R_alloc | apply Kd.R_drewN | apply Kd.R_drew)); exact HO240.out) hb) (Kd.R_base ho0)) (Kd.R_base ho1)) (fun _ h_ => h_.1)); have n5_ := Aside0.mk (Kd.R_mono (Kd.R_told (Kd.R_told (Kd.R_old (by (with_reducible repeat (first | apply Kd.R_alloc | apply Kd.R_drewN | apply Kd.R_drew)); exact HO242.out) hb) (Kd.R_base ho0)) (Kd.R_base ho1)) (fun _ h_ => h_.1)); have n6_ := Aside0.mk (Kd.R_lower (Kd.R_new' (Kd.R_new' (Kd.R_new' (Kd.R_new' (Kd.R_new' (Kd.R_new' ho0 (Kd.R_lt (by (with_reducible repeat (first | apply Kd.R_alloc | apply Kd.R_drewN | apply Kd.R_drew)); exact HO228.out))) (Kd.R_lt (by (with_reducible repeat (first | apply Kd.R_alloc | apply Kd.R_drewN | apply Kd.R_drew)); exact HO230.out))) (Kd.R_lt (by (with_reducible repeat (first | apply Kd.R_alloc | apply Kd.R_drewN | apply Kd.R_drew)); exact HO234.out))) (Kd.R_lt (by (with_reducible repeat (first | apply Kd.R_alloc | apply Kd.R_drewN | apply Kd.R_drew)); exact HO236.out))) (Kd.R_lt (by (with_reducible repeat (first | apply Kd.R_alloc | apply Kd.R_drewN | apply Kd.R_drew)); exact HO240.out))) (Kd.R_lt (by (with_reducible repeat (first | apply Kd.R_alloc | apply Kd.R_drewN | apply Kd.R_drew)); exact HO242.out))) (below_size (by repeat (first | (with_reducible first | exact HB.out | apply below_alloc | apply pw_below_drewN | apply below_drew1) | exact HB.out)))); have n7_ := Aside0.mk (Kd.R_lower (Kd.R_new' (Kd.R_new' (Kd.R_new' (Kd.R_new' (Kd.R_new' (Kd.R_new' ho1 (Kd.R_lt (by (with_reducible repeat (first | apply Kd.R_alloc | apply Kd.R_drewN | apply Kd.R_drew)); exact HO228.out))) (Kd.R_lt (by (with_reducible repeat (first | apply Kd.R_alloc | apply Kd.R_drewN | apply Kd.R_drew)); exact HO230.out))) (Kd.R_lt (by (with_reducible repeat (first | apply Kd.R_alloc | apply Kd.R_drewN | apply Kd.R_drew)); exact HO234.out))) (Kd.R_lt (by (with_reducible repeat (first | apply Kd.R_alloc | apply Kd.R_drewN | apply Kd.R_drew)); exact HO236.out))) (Kd.R_lt (by (with_reducible repeat (first | apply Kd.R_alloc | apply Kd.R_drewN | apply Kd.R_drew)); exact HO240.out))) (Kd.R_lt (by (with_reducible repeat (first | apply Kd.R_alloc | apply Kd.R_drewN | apply Kd.R_drew)); exact HO242.out))) (below_size (by repeat (first | (with_reducible first | exact HB.out | apply below_alloc | apply pw_below_drewN | apply below_drew1) | exact HB.out)))); have n8_ := Aside0.mk (below_step (by repeat (first | (with_reducible first | exact HB.out | apply below_alloc | apply pw_below_drewN | apply below_drew1) | exact HB.out)) hb); clear HO228; clear HO230; clear HO234; clear HO236; clear HO240; clear HO242; clear HB; have HO228 := n0_; have HO230 := n1_; have HO234 := n2_; have HO236 := n3_; have HO240 := n4_; have HO242 := n5_; have HO247 := n6_; have HO249 := n7_; have HB := n8_; clear n0_ n1_ n2_ n3_ n4_ n5_ n6_ n7_ n8_; (try clear hb); (try clear hb2); (try clear hk); (try clear hi); (try clear ho0); (try clear ho1); obtain ⟨Ao25, co25, eo25⟩ := Kd.R_slice HO249.out; subst eo25) | ((with_reducible refine gate_callee (f := 19) rfl ?_); refine goesL_ (some 69) rfl rfl Try.func19 (by kernel_rfl) rfl #[.slice Ao25 t244.length co25, .int .u64 a2, .int .u64 a3, .int .u64 a4] rfl (by (try simp only [List.map_toArray, List.map_cons, List.map_nil]); first | done | rfl | (simp only [List.length_drop, List.length_take]; rfl)) ?_; (with_reducible refine (ledger_Lost.calls kj6 _ _ t244 a2 a3 a4 t250 t251 t252 _ ?side1 ?side2 A16.out).mono ?_); (case side1 => repeat (first | exact (Kd.R_reads' HO249.out).2.2 | (with_reducible refine Kd.C_alloc ?_ _) | (with_reducible refine Kd.C_drewN ?_ _) | (with_reducible refine Kd.C_drew ?_))); (case side2 => exact (Kd.R_reads' HO249.out).2.1); rintro e w26 ⟨v253, v255, rfl, ho0, ho1, hb⟩; refine ⟨_, rfl, ?_⟩; have n0_ := Aside0.mk (Kd.R_mono (Kd.R_told (Kd.R_told (Kd.R_old (by (with_reducible repeat (first | apply Kd.R_alloc | apply Kd.R_drewN | apply Kd.R_drew)); exact HO228.out) hb) (Kd.R_base ho0)) (Kd.R_base ho1)) (fun _ h_ => h_.1)); have n1_ := Aside0.mk (Kd.R_mono (Kd.R_told (Kd.R_told (Kd.R_old (by (with_reducible repeat (first | apply Kd.R_alloc | apply Kd.R_drewN | apply Kd.R_drew)); exact HO230.out) hb) (Kd.R_base ho0)) (Kd.R_base ho1)) (fun _ h_ => h_.1)); have n2_ := Aside0.mk (Kd.R_mono (Kd.R_told (Kd.R_told (Kd.R_old (by (with_reducible repeat (first | apply Kd.R_alloc | apply Kd.R_drewN | apply Kd.R_drew)); exact HO234.out) hb) (Kd.R_base ho0)) (Kd.R_base ho1)) (fun _ h_ => h_.1)); have n3_ := Aside0.mk (Kd.R_mono (Kd.R_told (Kd.R_told (Kd.R_old (by (with_reducible repeat (first | apply Kd.R_alloc | apply Kd.R_drewN | apply Kd.R_drew)); exact HO236.out) hb) (Kd.R_base ho0)) (Kd.R_base ho1)) (fun _ h_ => h_.1)); have n4_ := Aside0.mk (Kd.R_mono (Kd.R_told (Kd.R_told (Kd.R_old (by (with_reducible repeat (first | apply Kd.R_alloc | apply Kd.R_drewN | apply Kd.R_drew)); exact HO240.out) hb) (Kd.R_base ho0)) (Kd.R_base ho1)) (fun _ h_ => h_.1)); have n5_ := Aside0.mk (Kd.R_mono (Kd.R_told (Kd.R_told (Kd.R_old (by (with_reducible repeat (first | apply Kd.R_alloc | apply Kd.R_drewN | apply Kd.R_drew)); exact HO242.out) hb) (Kd.R_base ho0)) (Kd.R_base ho1)) (fun _ h_ => h_.1)); have n6_ := Aside0.mk (Kd.R_mono (Kd.R_told (Kd.R_told (Kd.R_old (by (with_reducible repeat (first | apply Kd.R_alloc | apply Kd.R_drewN | apply Kd.R_drew)); exact HO247.out) hb) (Kd.R_base ho0)) (Kd.R_base ho1)) (fun _ h_ => h_.1)); have n7_ := Aside0.mk (Kd.R_mono (Kd.R_told (Kd.R_told (Kd.R_old (by (with_reducible repeat (first | apply Kd.R_alloc | apply Kd.R_drewN | apply Kd.R_drew)); exact HO249.out) hb) (Kd.R_base ho0)) (Kd.R_base ho1)) (fun _ h_ => h_.1)); have n8_ := Aside0.mk (Kd.R_lower (Kd.R_new' (Kd.R_new' (Kd.R_new' (Kd.R_new' (Kd.R_new' (Kd.R_new' (Kd.R_new' (Kd.R_new' ho0 (Kd.R_lt (by (with_reducible repeat (first | apply Kd.R_alloc | apply Kd.R_drewN | apply Kd.R_drew)); exact HO228.out))) (Kd.R_lt (by (with_reducible repeat (first | apply Kd.R_alloc | apply Kd.R_drewN | apply Kd.R_drew)); exact HO230.out))) (Kd.R_lt (by (with_reducible repeat (first | apply Kd.R_alloc | apply Kd.R_drewN | apply Kd.R_drew)); exact HO234.out))) (Kd.R_lt (by (with_reducible repeat (first | apply Kd.R_alloc | apply Kd.R_drewN | apply Kd.R_drew)); exact HO236.out))) (Kd.R_lt (by (with_reducible repeat (first | apply Kd.R_alloc | apply Kd.R_drewN | apply Kd.R_drew)); exact HO240.out))) (Kd.R_lt (by (with_reducible repeat (first | apply Kd.R_alloc | apply Kd.R_drewN | apply Kd.R_drew)); exact HO242.out))) (Kd.R_lt (by (with_reducible repeat (first | apply Kd.R_alloc | apply Kd.R_drewN | apply Kd.R_drew)); exact HO247.out))) (Kd.R_lt (by (with_reducible repeat (first | apply Kd.R_alloc | apply Kd.R_drewN | apply Kd.R_drew)); exact HO249.out))) (below_size (by repeat (first | (with_reducible first | exact HB.out | apply below_alloc | apply pw_below_drewN | apply below_drew1) | exact HB.out)))); have n9_ := Aside0.mk (Kd.R_lower (Kd.R_new' (Kd.R_new' (Kd.R_new' (Kd.R_new' (Kd.R_new' (Kd.R_new' (Kd.R_new' (Kd.R_new' ho1 (Kd.R_lt (by (with_reducible repeat (first | apply Kd.R_alloc | apply Kd.R_drewN | apply Kd.R_drew)); exact HO228.out))) (Kd.R_lt (by (with_reducible repeat (first | apply Kd.R_alloc | apply Kd.R_drewN | apply Kd.R_drew)); exact HO230.out))) (Kd.R_lt (by (with_reducible repeat (first | apply Kd.R_alloc | apply Kd.R_drewN | apply Kd.R_drew)); exact HO234.out))) (Kd.R_lt (by (with_reducible repeat (first | apply Kd.R_alloc | apply Kd.R_drewN | apply Kd.R_drew)); exact HO236.out))) (Kd.R_lt (by (with_reducible repeat (first | apply Kd.R_alloc | apply Kd.R_drewN | apply Kd.R_drew)); exact HO240.out))) (Kd.R_lt (by (with_reducible repeat (first | apply Kd.R_alloc | apply Kd.R_drewN | apply Kd.R_drew)); exact HO242.out))) (Kd.R_lt (by (with_reducible repeat (first | apply Kd.R_alloc | apply Kd.R_drewN | apply Kd.R_drew)); exact HO247.out))) (Kd.R_lt (by (with_reducible repeat (first | apply Kd.R_alloc | apply Kd.R_drewN | apply Kd.R_drew)); exact HO249.out))) (below_size (by repeat (first | (with_reducible first | exact HB.out | apply below_alloc | apply pw_below_drewN | apply below_drew1) | exact HB.out)))); have n10_ := Aside0.mk (below_step (by repeat (first | (with_reducible first | exact HB.out | apply below_alloc | apply pw_below_drewN | apply below_drew1) | exact HB.out)) hb); clear HO228; clear HO230; clear HO234; clear HO236; clear HO240; clear HO242; clear HO247; clear HO249; clear HB; have HO228 := n0_; have HO230 := n1_; have HO234 := n2_; have HO236 := n3_; have HO240 := n4_; have HO242 := n5_; have HO247 := n6_; have HO249 := n7_; have HO254 := n8_; have HO256 := n9_; have HB := n10_; clear n0_ n1_ n2_ n3_ n4_ n5_ n6_ n7_ n8_ n9_ n10_; (try clear hb); (try clear hb2); (try clear hk); (try clear hi); (try clear ho0); (try clear ho1); obtain ⟨Ao27, co27, eo27⟩ := Kd.R_slice HO247.out; subst eo27) | ((with_reducible refine gate_callee (f := 19) rfl ?_); refine goesL_ (some 78) rfl rfl Try.func19 (by kernel_rfl) rfl #[.slice Ao27 t243.length co27, .int .u64 a2, .int .u64 a3, .int .u64 a4] rfl (by (try simp only [List.map_toArray, List.map_cons, List.map_nil]); first | done | rfl | (simp only [List.length_drop, List.length_take]; rfl)) ?_; (with_reducible refine (ledger_Lost.calls kj6 _ _ t243 a2 a3 a4 t257 t258 t259 _ ?side1 ?side2 A17.out).mono ?_); (case side1 => repeat (first | exact (Kd.R_reads' HO247.out).2.2 | (with_reducible refine Kd.C_alloc ?_ _) | (with_reducible refine Kd.C_drewN ?_ _) | (with_reducible refine Kd.C_drew ?_))); (case side2 => exact (Kd.R_reads' HO247.out).2.1); rintro e w28 ⟨v260, v262, rfl, ho0, ho1, hb⟩; refine ⟨_, rfl, ?_⟩; have n0_ := Aside0.mk (Kd.R_mono (Kd.R_told (Kd.R_told (Kd.R_old (by (with_reducible repeat (first | apply Kd.R_alloc | apply Kd.R_drewN | apply Kd.R_drew)); exact HO228.out) hb) (Kd.R_base ho0)) (Kd.R_base ho1)) (fun _ h_ => h_.1)); have n1_ := Aside0.mk (Kd.R_mono (Kd.R_told (Kd.R_told (Kd.R_old (by (with_reducible repeat (first | apply Kd.R_alloc | apply Kd.R_drewN | apply Kd.R_drew)); exact HO230.out) hb) (Kd.R_base ho0)) (Kd.R_base ho1)) (fun _ h_ => h_.1)); have n2_ := Aside0.mk (Kd.R_mono (Kd.R_told (Kd.R_told (Kd.R_old (by (with_reducible repeat (first | apply Kd.R_alloc | apply Kd.R_drewN | apply Kd.R_drew)); exact HO234.out) hb) (Kd.R_base ho0)) (Kd.R_base ho1)) (fun _ h_ => h_.1)); have n3_ := Aside0.mk (Kd.R_mono (Kd.R_told (Kd.R_told (Kd.R_old (by (with_reducible repeat (first | apply Kd.R_alloc | apply Kd.R_drewN | apply Kd.R_drew)); exact HO236.out) hb) (Kd.R_base ho0)) (Kd.R_base ho1)) (fun _ h_ => h_.1)); have n4_ := Aside0.mk (Kd.R_mono (Kd.R_told (Kd.R_told (Kd.R_old (by (with_reducible repeat (first | apply Kd.R_alloc | apply Kd.R_drewN | apply Kd.R_drew)); exact HO240.out) hb) (Kd.R_base ho0)) (Kd.R_base ho1)) (fun _ h_ => h_.1)); have n5_ := Aside0.mk (Kd.R_mono (Kd.R_told (Kd.R_told (Kd.R_old (by (with_reducible repeat (first | apply Kd.R_alloc | apply Kd.R_drewN | apply Kd.R_drew)); exact HO242.out) hb) (Kd.R_base ho0)) (Kd.R_base ho1)) (fun _ h_ => h_.1)); have n6_ := Aside0.mk (Kd.R_mono (Kd.R_told (Kd.R_told (Kd.R_old (by (with_reducible repeat (first | apply Kd.R_alloc | apply Kd.R_drewN | apply Kd.R_drew)); exact HO247.out) hb) (Kd.R_base ho0)) (Kd.R_base ho1)) (fun _ h_ => h_.1)); have n7_ := Aside0.mk (Kd.R_mono (Kd.R_told (Kd.R_told (Kd.R_old (by (with_reducible repeat (first | apply Kd.R_alloc | apply Kd.R_drewN | apply Kd.R_drew)); exact HO249.out) hb) (Kd.R_base ho0)) (Kd.R_base ho1)) (fun _ h_ => h_.1)); have n8_ := Aside0.mk (Kd.R_mono (Kd.R_told (Kd.R_told (Kd.R_old (by (with_reducible repeat (first | apply Kd.R_alloc | apply Kd.R_drewN | apply Kd.R_drew)); exact HO254.out) hb) (Kd.R_base ho0)) (Kd.R_base ho1)) (fun _ h_ => h_.1)); have n9_ := Aside0.mk (Kd.R_mono (Kd.R_told (Kd.R_told (Kd.R_old (by (with_reducible repeat (first | apply Kd.R_alloc | apply Kd.R_drewN | apply Kd.R_drew)); exact HO256.out) hb) (Kd.R_base ho0)) (Kd.R_base ho1)) (fun _ h_ => h_.1)); have n10_ := Aside0.mk (Kd.R_lower (Kd.R_new' (Kd.R_new' (Kd.R_new' (Kd.R_new' (Kd.R_new' (Kd.R_new' (Kd.R_new' (Kd.R_new' (Kd.R_new' (Kd.R_new' ho0 (Kd.R_lt (by (with_reducible repeat (first | apply Kd.R_alloc | apply Kd.R_drewN | apply Kd.R_drew)); exact HO228.out))) (Kd.R_lt (by (with_reducible repeat (first | apply Kd.R_alloc | apply Kd.R_drewN | apply Kd.R_drew)); exact HO230.out))) (Kd.R_lt (by (with_reducible repeat (first | apply Kd.R_alloc | apply Kd.R_drewN | apply Kd.R_drew)); exact HO234.out))) (Kd.R_lt (by (with_reducible repeat (first | apply Kd.R_alloc | apply Kd.R_drewN | apply Kd.R_drew)); exact HO236.out))) (Kd.R_lt (by (with_reducible repeat (first | apply Kd.R_alloc | apply Kd.R_drewN | apply Kd.R_drew)); exact HO240.out))) (Kd.R_lt (by (with_reducible repeat (first | apply Kd.R_alloc | apply Kd.R_drewN | apply Kd.R_drew)); exact HO242.out))) (Kd.R_lt (by (with_reducible repeat (first | apply Kd.R_alloc | apply Kd.R_drewN | apply Kd.R_drew)); exact HO247.out))) (Kd.R_lt (by (with_reducible repeat (first | apply Kd.R_alloc | apply Kd.R_drewN | apply Kd.R_drew)); exact HO249.out))) (Kd.R_lt (by (with_reducible repeat (first | apply Kd.R_alloc | apply Kd.R_drewN | apply Kd.R_drew)); exact HO254.out))) (Kd.R_lt (by (with_reducible repeat (first | apply Kd.R_alloc | apply Kd.R_drewN | apply Kd.R_drew)); exact HO256.out))) (below_size (by repeat (first | (with_reducible first | exact HB.out | apply below_alloc | apply pw_below_drewN | apply below_drew1) | exact HB.out)))); have n11_ := Aside0.mk (Kd.R_lower (Kd.R_new' (Kd.R_new' (Kd.R_new' (Kd.R_new' (Kd.R_new' (Kd.R_new' (Kd.R_new' (Kd.R_new' (Kd.R_new' (Kd.R_new' ho1 (Kd.R_lt (by (with_reducible repeat (first | apply Kd.R_alloc | apply Kd.R_drewN | apply Kd.R_drew)); exact HO228.out))) (Kd.R_lt (by (with_reducible repeat (first | apply Kd.R_alloc | apply Kd.R_drewN | apply Kd.R_drew)); exact HO230.out))) (Kd.R_lt (by (with_reducible repeat (first | apply Kd.R_alloc | apply Kd.R_drewN | apply Kd.R_drew)); exact HO234.out))) (Kd.R_lt (by (with_reducible repeat (first | apply Kd.R_alloc | apply Kd.R_drewN | apply Kd.R_drew)); exact HO236.out))) (Kd.R_lt (by (with_reducible repeat (first | apply Kd.R_alloc | apply Kd.R_drewN | apply Kd.R_drew)); exact HO240.out))) (Kd.R_lt (by (with_reducible repeat (first | apply Kd.R_alloc | apply Kd.R_drewN | apply Kd.R_drew)); exact HO242.out))) (Kd.R_lt (by (with_reducible repeat (first | apply Kd.R_alloc | apply Kd.R_drewN | apply Kd.R_drew)); exact HO247.out))) (Kd.R_lt (by (with_reducible repeat (first | apply Kd.R_alloc | apply Kd.R_drewN | apply Kd.R_drew)); exact HO249.out))) (Kd.R_lt (by (with_reducible repeat (first | apply Kd.R_alloc | apply Kd.R_drewN | apply Kd.R_drew)); exact HO254.out))) (Kd.R_lt (by (with_reducible repeat (first | apply Kd.R_alloc | apply Kd.R_drewN | apply Kd.R_drew)); exact HO256.out))) (below_size (by repeat (first | (with_reducible first | exact HB.out | apply below_alloc | apply pw_below_drewN | apply below_drew1) | exact HB.out)))); have n12_ := Aside0.mk (below_step (by repeat (first | (with_reducible first | exact HB.out | apply below_alloc | apply pw_below_drewN | apply below_drew1) | exact HB.out)) hb); clear HO228; clear HO230; clear HO234; clear HO236; clear HO240; clear HO242; clear HO247; clear HO249; clear HO254; clear HO256; clear HB; have HO228 := n0_; have HO230 := n1_; have HO234 := n2_; have HO236 := n3_; have HO240 := n4_; have HO242 := n5_; have HO247 := n6_; have HO249 := n7_; have HO254 := n8_; have HO256 := n9_; have HO261 := n10_; have HO263 := n11_; have HB := n12_; clear n0_ n1_ n2_ n3_ n4_ n5_ n6_ n7_ n8_ n9_ n10_ n11_ n12_; (try clear hb); (try clear hb2); (try clear hk); (try clear hi); (try clear ho0); (try clear ho1)))
        (try simp only [Act.put, List.setIfInBounds_toArray, List.set_cons_zero, List.set_cons_succ])
        have H := HS18.out
        clear HS18
        by_cases c29 : t223 = true
        · subst c29
          have H1 : (if (t231.length : Int) = (t225.length : Int) then (if (t232.length : Int) = 0 then (if (t237.length : Int) = 0 then (if (t238.length : Int) = (t226.length : Int) then (if (t250.length : Int) = 0 then (if (t251.length : Int) = (t244.length : Int) then (if t245 = t252 then (if (t257.length : Int) = (t243.length : Int) then (some ((t258.length : Int) == 0)) else (some false)) else (some false)) else (some false)) else (some false)) else (some false)) else (some false)) else (some false)) else (some false)) = some r := by rw [if_pos rfl] at H; exact H
          clear H
          have H := H1
          clear H1
          by_cases c30 : (t231.length : Int) = (t225.length : Int)
          · rw [if_pos c30] at H
            have c30b0 : ((t231.length : Int) == (t225.length : Int)) = true := beq_iff_eq.mpr c30
            have c30b1 : ((t231.length : Int) != (t225.length : Int)) = false := bne_eq_false_iff_eq.mpr c30
            have c30b2 : (t231.length == t225.length) = true := by first | simpa using c30 | (simp at c30 ⊢; omega)
            clear c30
            by_cases c31 : (t232.length : Int) = 0
            · rw [if_pos c31] at H
              have c31b0 : ((t232.length : Int) == 0) = true := beq_iff_eq.mpr c31
              have c31b1 : ((t232.length : Int) != 0) = false := bne_eq_false_iff_eq.mpr c31
              clear c31
              by_cases c32 : (t237.length : Int) = 0
              · rw [if_pos c32] at H
                have c32b0 : ((t237.length : Int) == 0) = true := beq_iff_eq.mpr c32
                have c32b1 : ((t237.length : Int) != 0) = false := bne_eq_false_iff_eq.mpr c32
                clear c32
                by_cases c33 : (t238.length : Int) = (t226.length : Int)
                · rw [if_pos c33] at H
                  have c33b0 : ((t238.length : Int) == (t226.length : Int)) = true := beq_iff_eq.mpr c33
                  have c33b1 : ((t238.length : Int) != (t226.length : Int)) = false := bne_eq_false_iff_eq.mpr c33
                  have c33b2 : (t238.length == t226.length) = true := by first | simpa using c33 | (simp at c33 ⊢; omega)
                  clear c33
                  by_cases c34 : (t250.length : Int) = 0
                  · rw [if_pos c34] at H
                    have c34b0 : ((t250.length : Int) == 0) = true := beq_iff_eq.mpr c34
                    have c34b1 : ((t250.length : Int) != 0) = false := bne_eq_false_iff_eq.mpr c34
                    clear c34
                    by_cases c35 : (t251.length : Int) = (t244.length : Int)
                    · rw [if_pos c35] at H
                      have c35b0 : ((t251.length : Int) == (t244.length : Int)) = true := beq_iff_eq.mpr c35
                      have c35b1 : ((t251.length : Int) != (t244.length : Int)) = false := bne_eq_false_iff_eq.mpr c35
                      have c35b2 : (t251.length == t244.length) = true := by first | simpa using c35 | (simp at c35 ⊢; omega)
                      clear c35
                      by_cases c36 : t245 = t252
                      · rw [if_pos c36] at H
                        have c36b0 : (t245 == t252) = true := beq_iff_eq.mpr c36
                        have c36b1 : (t245 != t252) = false := bne_eq_false_iff_eq.mpr c36
                        clear c36
                        by_cases c37 : (t257.length : Int) = (t243.length : Int)
                        · rw [if_pos c37] at H
                          have c37b0 : ((t257.length : Int) == (t243.length : Int)) = true := beq_iff_eq.mpr c37
                          have c37b1 : ((t257.length : Int) != (t243.length : Int)) = false := bne_eq_false_iff_eq.mpr c37
                          have c37b2 : (t257.length == t243.length) = true := by first | simpa using c37 | (simp at c37 ⊢; omega)
                          clear c37
                          obtain rfl := Option.some.inj H
                          obtain ⟨Ao38, co38, eo38⟩ := Kd.R_slice HO234.out
                          subst eo38
                          obtain ⟨Ao39, co39, eo39⟩ := Kd.R_slice HO236.out
                          subst eo39
                          obtain ⟨Ao40, co40, eo40⟩ := Kd.R_slice HO240.out
                          subst eo40
                          obtain ⟨Ao41, co41, eo41⟩ := Kd.R_slice HO242.out
                          subst eo41
                          obtain ⟨Ao42, co42, eo42⟩ := Kd.R_slice HO254.out
                          subst eo42
                          obtain ⟨Ao43, co43, eo43⟩ := Kd.R_slice HO256.out
                          subst eo43
                          obtain ⟨Ao44, co44, eo44⟩ := Kd.R_slice HO261.out
                          subst eo44
                          obtain ⟨Ao45, co45, eo45⟩ := Kd.R_slice HO263.out
                          subst eo45
                          go_wp2
                          go_ret
                          exact ⟨by first | rfl | (simp [errW_none, errW_some] <;> rfl) | (simp [*, errW_none, errW_some] <;> rfl), by repeat (first | (with_reducible first | exact HB.out | apply below_alloc | apply pw_below_drewN | apply below_drew1) | exact HB.out)⟩
                        · rw [if_neg c37] at H
                          have c37b0 : ((t257.length : Int) == (t243.length : Int)) = false := beq_eq_false_iff_ne.mpr c37
                          have c37b1 : ((t257.length : Int) != (t243.length : Int)) = true := bne_iff_ne.mpr c37
                          have c37b2 : (t257.length == t243.length) = false := by first | simpa using c37 | (simp at c37 ⊢; omega)
                          obtain rfl := Option.some.inj H
                          obtain ⟨Ao46, co46, eo46⟩ := Kd.R_slice HO234.out
                          subst eo46
                          obtain ⟨Ao47, co47, eo47⟩ := Kd.R_slice HO236.out
                          subst eo47
                          obtain ⟨Ao48, co48, eo48⟩ := Kd.R_slice HO240.out
                          subst eo48
                          obtain ⟨Ao49, co49, eo49⟩ := Kd.R_slice HO242.out
                          subst eo49
                          obtain ⟨Ao50, co50, eo50⟩ := Kd.R_slice HO254.out
                          subst eo50
                          obtain ⟨Ao51, co51, eo51⟩ := Kd.R_slice HO256.out
                          subst eo51
                          obtain ⟨Ao52, co52, eo52⟩ := Kd.R_slice HO261.out
                          subst eo52
                          go_wp2
                          go_ret
                          exact ⟨by first | rfl | (simp [errW_none, errW_some] <;> rfl) | (simp [*, errW_none, errW_some] <;> rfl), by repeat (first | (with_reducible first | exact HB.out | apply below_alloc | apply pw_below_drewN | apply below_drew1) | exact HB.out)⟩
                      · rw [if_neg c36] at H
                        have c36b0 : (t245 == t252) = false := beq_eq_false_iff_ne.mpr c36
                        have c36b1 : (t245 != t252) = true := bne_iff_ne.mpr c36
                        obtain rfl := Option.some.inj H
                        obtain ⟨Ao53, co53, eo53⟩ := Kd.R_slice HO234.out
                        subst eo53
                        obtain ⟨Ao54, co54, eo54⟩ := Kd.R_slice HO236.out
                        subst eo54
                        obtain ⟨Ao55, co55, eo55⟩ := Kd.R_slice HO240.out
                        subst eo55
                        obtain ⟨Ao56, co56, eo56⟩ := Kd.R_slice HO242.out
                        subst eo56
                        obtain ⟨Ao57, co57, eo57⟩ := Kd.R_slice HO254.out
                        subst eo57
                        obtain ⟨Ao58, co58, eo58⟩ := Kd.R_slice HO256.out
                        subst eo58
                        go_wp2
                        go_ret
                        exact ⟨by first | rfl | (simp [errW_none, errW_some] <;> rfl) | (simp [*, errW_none, errW_some] <;> rfl), by repeat (first | (with_reducible first | exact HB.out | apply below_alloc | apply pw_below_drewN | apply below_drew1) | exact HB.out)⟩
                    · rw [if_neg c35] at H
                      have c35b0 : ((t251.length : Int) == (t244.length : Int)) = false := beq_eq_false_iff_ne.mpr c35
                      have c35b1 : ((t251.length : Int) != (t244.length : Int)) = true := bne_iff_ne.mpr c35
                      have c35b2 : (t251.length == t244.length) = false := by first | simpa using c35 | (simp at c35 ⊢; omega)
                      obtain rfl := Option.some.inj H
                      obtain ⟨Ao59, co59, eo59⟩ := Kd.R_slice HO234.out
                      subst eo59
                      obtain ⟨Ao60, co60, eo60⟩ := Kd.R_slice HO236.out
                      subst eo60
                      obtain ⟨Ao61, co61, eo61⟩ := Kd.R_slice HO240.out
                      subst eo61
                      obtain ⟨Ao62, co62, eo62⟩ := Kd.R_slice HO242.out
                      subst eo62
                      obtain ⟨Ao63, co63, eo63⟩ := Kd.R_slice HO254.out
                      subst eo63
                      obtain ⟨Ao64, co64, eo64⟩ := Kd.R_slice HO256.out
                      subst eo64
                      go_wp2
                      go_ret
                      exact ⟨by first | rfl | (simp [errW_none, errW_some] <;> rfl) | (simp [*, errW_none, errW_some] <;> rfl), by repeat (first | (with_reducible first | exact HB.out | apply below_alloc | apply pw_below_drewN | apply below_drew1) | exact HB.out)⟩
                  · rw [if_neg c34] at H
                    have c34b0 : ((t250.length : Int) == 0) = false := beq_eq_false_iff_ne.mpr c34
                    have c34b1 : ((t250.length : Int) != 0) = true := bne_iff_ne.mpr c34
                    have c34b2 : ¬ (t250 = []) := fun h_ => c34 (by rw [h_]; rfl)
                    obtain rfl := Option.some.inj H
                    obtain ⟨Ao65, co65, eo65⟩ := Kd.R_slice HO234.out
                    subst eo65
                    obtain ⟨Ao66, co66, eo66⟩ := Kd.R_slice HO236.out
                    subst eo66
                    obtain ⟨Ao67, co67, eo67⟩ := Kd.R_slice HO240.out
                    subst eo67
                    obtain ⟨Ao68, co68, eo68⟩ := Kd.R_slice HO242.out
                    subst eo68
                    obtain ⟨Ao69, co69, eo69⟩ := Kd.R_slice HO254.out
                    subst eo69
                    go_wp2
                    go_ret
                    exact ⟨by first | rfl | (simp [errW_none, errW_some] <;> rfl) | (simp [*, errW_none, errW_some] <;> rfl), by repeat (first | (with_reducible first | exact HB.out | apply below_alloc | apply pw_below_drewN | apply below_drew1) | exact HB.out)⟩
                · rw [if_neg c33] at H
                  have c33b0 : ((t238.length : Int) == (t226.length : Int)) = false := beq_eq_false_iff_ne.mpr c33
                  have c33b1 : ((t238.length : Int) != (t226.length : Int)) = true := bne_iff_ne.mpr c33
                  have c33b2 : (t238.length == t226.length) = false := by first | simpa using c33 | (simp at c33 ⊢; omega)
                  obtain rfl := Option.some.inj H
                  obtain ⟨Ao70, co70, eo70⟩ := Kd.R_slice HO234.out
                  subst eo70
                  obtain ⟨Ao71, co71, eo71⟩ := Kd.R_slice HO236.out
                  subst eo71
                  obtain ⟨Ao72, co72, eo72⟩ := Kd.R_slice HO240.out
                  subst eo72
                  obtain ⟨Ao73, co73, eo73⟩ := Kd.R_slice HO242.out
                  subst eo73
                  go_wp2
                  go_ret
                  exact ⟨by first | rfl | (simp [errW_none, errW_some] <;> rfl) | (simp [*, errW_none, errW_some] <;> rfl), by repeat (first | (with_reducible first | exact HB.out | apply below_alloc | apply pw_below_drewN | apply below_drew1) | exact HB.out)⟩
              · rw [if_neg c32] at H
                have c32b0 : ((t237.length : Int) == 0) = false := beq_eq_false_iff_ne.mpr c32
                have c32b1 : ((t237.length : Int) != 0) = true := bne_iff_ne.mpr c32
                have c32b2 : ¬ (t237 = []) := fun h_ => c32 (by rw [h_]; rfl)
                obtain rfl := Option.some.inj H
                obtain ⟨Ao74, co74, eo74⟩ := Kd.R_slice HO234.out
                subst eo74
                obtain ⟨Ao75, co75, eo75⟩ := Kd.R_slice HO236.out
                subst eo75
                obtain ⟨Ao76, co76, eo76⟩ := Kd.R_slice HO240.out
                subst eo76
                go_wp2
                go_ret
                exact ⟨by first | rfl | (simp [errW_none, errW_some] <;> rfl) | (simp [*, errW_none, errW_some] <;> rfl), by repeat (first | (with_reducible first | exact HB.out | apply below_alloc | apply pw_below_drewN | apply below_drew1) | exact HB.out)⟩
            · rw [if_neg c31] at H
              have c31b0 : ((t232.length : Int) == 0) = false := beq_eq_false_iff_ne.mpr c31
              have c31b1 : ((t232.length : Int) != 0) = true := bne_iff_ne.mpr c31
              have c31b2 : ¬ (t232 = []) := fun h_ => c31 (by rw [h_]; rfl)
              obtain rfl := Option.some.inj H
              obtain ⟨Ao77, co77, eo77⟩ := Kd.R_slice HO234.out
              subst eo77
              obtain ⟨Ao78, co78, eo78⟩ := Kd.R_slice HO236.out
              subst eo78
              go_wp2
              go_ret
              exact ⟨by first | rfl | (simp [errW_none, errW_some] <;> rfl) | (simp [*, errW_none, errW_some] <;> rfl), by repeat (first | (with_reducible first | exact HB.out | apply below_alloc | apply pw_below_drewN | apply below_drew1) | exact HB.out)⟩
          · rw [if_neg c30] at H
            have c30b0 : ((t231.length : Int) == (t225.length : Int)) = false := beq_eq_false_iff_ne.mpr c30
            have c30b1 : ((t231.length : Int) != (t225.length : Int)) = true := bne_iff_ne.mpr c30
            have c30b2 : (t231.length == t225.length) = false := by first | simpa using c30 | (simp at c30 ⊢; omega)
            obtain rfl := Option.some.inj H
            obtain ⟨Ao79, co79, eo79⟩ := Kd.R_slice HO234.out
            subst eo79
            go_wp2
            go_ret
            exact ⟨by first | rfl | (simp [errW_none, errW_some] <;> rfl) | (simp [*, errW_none, errW_some] <;> rfl), by repeat (first | (with_reducible first | exact HB.out | apply below_alloc | apply pw_below_drewN | apply below_drew1) | exact HB.out)⟩
        · replace c29 := Bool.eq_false_iff.mpr c29
          subst c29
          have H1 : (some false) = some r := by rw [if_neg (show ¬ (false = true) by decide)] at H; exact H
          clear H
          have H := H1
          clear H1
          obtain rfl := Option.some.inj H
          go_wp2
          go_ret
          exact ⟨by first | rfl | (simp [errW_none, errW_some] <;> rfl) | (simp [*, errW_none, errW_some] <;> rfl), by repeat (first | (with_reducible first | exact HB.out | apply below_alloc | apply pw_below_drewN | apply below_drew1) | exact HB.out)⟩

end Go.Proofs.Ytfgmikhlplbmeaa.P
