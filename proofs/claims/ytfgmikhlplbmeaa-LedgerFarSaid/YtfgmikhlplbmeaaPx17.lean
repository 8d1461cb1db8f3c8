-- Printed for this claim by xprint.py of this session: contracts of this session's own stand in for what the print does not take
import Derived.Test.YtfgmikhlplbmeaaPx0
import Derived.Test.YtfgmikhlplbmeaaPx10
import Derived.Test.YtfgmikhlplbmeaaPx12
import Derived.Test.YtfgmikhlplbmeaaPx13
import Derived.Test.YtfgmikhlplbmeaaPx16
namespace Go.Proofs.Ytfgmikhlplbmeaa.P
open Go.RowKit Go.Proofs.YtfgmikhlplbmeaaW.PrintWords Go.Proofs.YtfgmikhlplbmeaaW.PrintLast Go.Proofs.YtfgmikhlplbmeaaW.PrintMore
attribute [local go_sem] max2_int min2_int max_two min_two max_three min_three max_four min_four   -- for this text's walks alone
set_option linter.unusedVariables false
set_option linter.unusedSimpArgs false

/-! ### wigwaglaw09_LedgerFar: function 7 -/
mutual
def wigwaglaw09_LedgerFar.j0 : Nat → List (S37) → Int → Int → Bool → Bool → Option (Bool)
  | 0, _, _, _, _, _ => none
  | k + 1, x0, x1, x2, x7, x24 => if x24 = true then (some x7) else ((ledger_Lost.f k x0 x1 0 x2).bind fun bt292 => (wigwaglaw09_LedgerFar.l0 k x1 x7 bt292.1 bt292.2.1 0))
def wigwaglaw09_LedgerFar.l0 : Nat → Int → Bool → List (S37) → List (S37) → Int → Option (Bool)
  | 0, _, _, _, _, _ => none
  | k + 1, x1, x7, x8, x9, x11 => if x11 < (x8.length : Int) then (if 0 ≤ x11 then ((wigwagref01_Add.f ((rd_T37 x8 x11).f0) 4).bind fun t300 => (if t300 > x1 then (some false) else (wigwaglaw09_LedgerFar.l0 k x1 x7 x8 x9 (wrap64 (x11 + 1))))) else (none)) else (wigwaglaw09_LedgerFar.l1 k x1 x7 x9 0)
def wigwaglaw09_LedgerFar.l1 : Nat → Int → Bool → List (S37) → Int → Option (Bool)
  | 0, _, _, _, _ => none
  | k + 1, x1, x7, x9, x12 => if x12 < (x9.length : Int) then (if 0 ≤ x12 then ((wigwagref01_Add.f ((rd_T37 x9 x12).f0) 4).bind fun t302 => (if t302 ≤ x1 then (some false) else (wigwaglaw09_LedgerFar.l1 k x1 x7 x9 (wrap64 (x12 + 1))))) else (none)) else (some x7)
end
def wigwaglaw09_LedgerFar.f (k : Nat) (l0 : List (S37)) (a1 : Int) (a2 : Int) : Option (Bool) := (wigwaglaw09_awake.f k).bind fun t290 => ((wigwaglaw09_few.f l0).bind fun t291 => (if t291 = true then (if a2 = 0 then (wigwaglaw09_LedgerFar.j0 k l0 a1 a2 t290 true) else (wigwaglaw09_LedgerFar.j0 k l0 a1 a2 t290 (decide (a1 > 4611686018427387904)))) else (wigwaglaw09_LedgerFar.j0 k l0 a1 a2 t290 true)))
theorem wigwaglaw09_LedgerFar.mono_l : ∀ k, (∀ y0 y1 y2 y3 y4, LeO (wigwaglaw09_LedgerFar.j0 k y0 y1 y2 y3 y4) (wigwaglaw09_LedgerFar.j0 (k + 1) y0 y1 y2 y3 y4)) ∧ (∀ y0 y1 y2 y3 y4, LeO (wigwaglaw09_LedgerFar.l0 k y0 y1 y2 y3 y4) (wigwaglaw09_LedgerFar.l0 (k + 1) y0 y1 y2 y3 y4)) ∧ (∀ y0 y1 y2 y3, LeO (wigwaglaw09_LedgerFar.l1 k y0 y1 y2 y3) (wigwaglaw09_LedgerFar.l1 (k + 1) y0 y1 y2 y3))
  | 0 => ⟨fun _ _ _ _ _ r h => by simp [wigwaglaw09_LedgerFar.j0] at h, fun _ _ _ _ _ r h => by simp [wigwaglaw09_LedgerFar.l0] at h, fun _ _ _ _ r h => by simp [wigwaglaw09_LedgerFar.l1] at h⟩
  | k + 1 => by
    obtain ⟨ih0, ih1, ih2⟩ := wigwaglaw09_LedgerFar.mono_l k
    refine ⟨?_, ?_, ?_⟩
    · intro y0 y1 y2 y3 y4
      unfold wigwaglaw09_LedgerFar.j0
      repeat' first
      | (with_reducible exact ih0 _ _ _ _ _)
      | (with_reducible exact ih1 _ _ _ _ _)
      | (with_reducible exact ih2 _ _ _ _)
      | (with_reducible exact ledger_Lost.mono _ _ _ _ _)
      | (with_reducible exact wigwaglaw09_awake.mono _)
      | (with_reducible exact LeO.refl _)
      | (with_reducible exact LeO.none _)
      | (with_reducible refine LeO.ite ?_ ?_)
      | (with_reducible refine LeO.bind ?_ (fun _ => ?_))
      | exact ih0 _ _ _ _ _
      | exact ih1 _ _ _ _ _
      | exact ih2 _ _ _ _
      | exact ledger_Lost.mono _ _ _ _ _
      | exact wigwaglaw09_awake.mono _
      | exact LeO.none _
      | refine LeO.ite ?_ ?_
      | refine LeO.bind ?_ (fun _ => ?_)
    · intro y0 y1 y2 y3 y4
      unfold wigwaglaw09_LedgerFar.l0
      repeat' first
      | (with_reducible exact ih0 _ _ _ _ _)
      | (with_reducible exact ih1 _ _ _ _ _)
      | (with_reducible exact ih2 _ _ _ _)
      | (with_reducible exact ledger_Lost.mono _ _ _ _ _)
      | (with_reducible exact wigwaglaw09_awake.mono _)
      | (with_reducible exact LeO.refl _)
      | (with_reducible exact LeO.none _)
      | (with_reducible refine LeO.ite ?_ ?_)
      | (with_reducible refine LeO.bind ?_ (fun _ => ?_))
      | exact ih0 _ _ _ _ _
      | exact ih1 _ _ _ _ _
      | exact ih2 _ _ _ _
      | exact ledger_Lost.mono _ _ _ _ _
      | exact wigwaglaw09_awake.mono _
      | exact LeO.none _
      | refine LeO.ite ?_ ?_
      | refine LeO.bind ?_ (fun _ => ?_)
    · intro y0 y1 y2 y3
      unfold wigwaglaw09_LedgerFar.l1
      repeat' first
      | (with_reducible exact ih0 _ _ _ _ _)
      | (with_reducible exact ih1 _ _ _ _ _)
      | (with_reducible exact ih2 _ _ _ _)
      | (with_reducible exact ledger_Lost.mono _ _ _ _ _)
      | (with_reducible exact wigwaglaw09_awake.mono _)
      | (with_reducible exact LeO.refl _)
      | (with_reducible exact LeO.none _)
      | (with_reducible refine LeO.ite ?_ ?_)
      | (with_reducible refine LeO.bind ?_ (fun _ => ?_))
      | exact ih0 _ _ _ _ _
      | exact ih1 _ _ _ _ _
      | exact ih2 _ _ _ _
      | exact ledger_Lost.mono _ _ _ _ _
      | exact wigwaglaw09_awake.mono _
      | exact LeO.none _
      | refine LeO.ite ?_ ?_
      | refine LeO.bind ?_ (fun _ => ?_)
theorem wigwaglaw09_LedgerFar.mono : ∀ a0 a1 a2 k, LeO (wigwaglaw09_LedgerFar.f k a0 a1 a2) (wigwaglaw09_LedgerFar.f (k + 1) a0 a1 a2) := by
  intro a0 a1 a2 k
  obtain ⟨ih0, ih1, ih2⟩ := wigwaglaw09_LedgerFar.mono_l k
  unfold wigwaglaw09_LedgerFar.f
  repeat' first
      | (with_reducible exact ih0 _ _ _ _ _)
      | (with_reducible exact ih1 _ _ _ _ _)
      | (with_reducible exact ih2 _ _ _ _)
      | (with_reducible exact ledger_Lost.mono _ _ _ _ _)
      | (with_reducible exact wigwaglaw09_awake.mono _)
      | (with_reducible exact LeO.refl _)
      | (with_reducible exact LeO.none _)
      | (with_reducible refine LeO.ite ?_ ?_)
      | (with_reducible refine LeO.bind ?_ (fun _ => ?_))
      | exact ih0 _ _ _ _ _
      | exact ih1 _ _ _ _ _
      | exact ih2 _ _ _ _
      | exact ledger_Lost.mono _ _ _ _ _
      | exact wigwaglaw09_awake.mono _
      | exact LeO.none _
      | refine LeO.ite ?_ ?_
      | refine LeO.bind ?_ (fun _ => ?_)
set_option maxHeartbeats 8000000 in
set_option maxRecDepth 100000 in
theorem wigwaglaw09_LedgerFar.calls (k : Nat) (A0 : Option Addr) (c0 : Nat) (l0 : List (S37)) (a1 : Int) (a2 : Int) (r : Bool) (w : World) (hr0 : Kd.C k37 w A0 l0.length l0) (hc0 : l0.length ≤ c0) (h : wigwaglaw09_LedgerFar.f k l0 a1 a2 = some r) :
    Calls Try.prog 7 #[.slice A0 l0.length c0, .int .u64 a1, .int .u64 a2] w fun e w' => e = .returned (.bool r) ∧ Below w.heap.size w w' := by
  have HR0 := Aside0.mk hr0
  have HC0 := Aside0.mk hc0
  clear hr0 hc0
  have HB := Aside0.mk (Below.refl w.heap.size w)
  have H : ((wigwaglaw09_awake.f k).bind fun t290 => ((wigwaglaw09_few.f l0).bind fun t291 => (if t291 = true then (if a2 = 0 then (wigwaglaw09_LedgerFar.j0 k l0 a1 a2 t290 true) else (wigwaglaw09_LedgerFar.j0 k l0 a1 a2 t290 (decide (a1 > 4611686018427387904)))) else (wigwaglaw09_LedgerFar.j0 k l0 a1 a2 t290 true)))) = some r := h
  clear h
  replace H := Option.bind_eq_some_iff.mp H
  obtain ⟨t290, A40, H⟩ := H
  replace H : ((wigwaglaw09_few.f l0).bind fun t291 => (if t291 = true then (if a2 = 0 then (wigwaglaw09_LedgerFar.j0 k l0 a1 a2 t290 true) else (wigwaglaw09_LedgerFar.j0 k l0 a1 a2 t290 (decide (a1 > 4611686018427387904)))) else (wigwaglaw09_LedgerFar.j0 k l0 a1 a2 t290 true))) = some r := H
  have A4 := Aside0.mk A40
  clear A40
  have HC5 := Aside0.mk H
  clear H
  go_enter Try.func7, Try.ntmps7
  go_upto_region 2 with (first | ((with_reducible refine gate_callee (f := 10) rfl ?_); refine goesL_ (some 13) rfl rfl Try.func10 (by kernel_rfl) rfl #[] rfl (by (try simp only [List.map_toArray, List.map_cons, List.map_nil]); first | done | rfl | (simp only [List.length_drop, List.length_take]; rfl)) ?_; (with_reducible refine (wigwaglaw09_awake.calls k  t290 _ A4.out).mono ?_); rintro e w6 ⟨rfl, hb⟩; refine ⟨_, rfl, ?_⟩; have n0_ := Aside0.mk (below_step (by repeat (first | (with_reducible first | exact HB.out | apply below_alloc | apply pw_below_drewN | apply below_drew1) | exact HB.out)) hb); clear HB; have HB := n0_; clear n0_; (try clear hb); (try clear hb2); (try clear hk); (try clear hi)))
  (try simp only [Act.put, List.setIfInBounds_toArray, List.set_cons_zero, List.set_cons_succ])
  go_cut [24] (fun v24 wc => ∃ (kq : Nat) (x24_4 : Bool), v24 = .bool x24_4 ∧ Aside0 (wigwaglaw09_LedgerFar.j0 kq l0 a1 a2 t290 x24_4 = some r) ∧ Aside0 (kq ≤ k) ∧ Aside0 (Below w.heap.size w wc))
  case first =>
    have H := HC5.out
    clear HC5
    replace H := Option.bind_eq_some_iff.mp H
    obtain ⟨t291, A70, H⟩ := H
    replace H : (if t291 = true then (if a2 = 0 then (wigwaglaw09_LedgerFar.j0 k l0 a1 a2 t290 true) else (wigwaglaw09_LedgerFar.j0 k l0 a1 a2 t290 (decide (a1 > 4611686018427387904)))) else (wigwaglaw09_LedgerFar.j0 k l0 a1 a2 t290 true)) = some r := H
    have A7 := Aside0.mk A70
    clear A70
    by_cases c8 : t291 = true
    · subst c8
      have H1 : (if a2 = 0 then (wigwaglaw09_LedgerFar.j0 k l0 a1 a2 t290 true) else (wigwaglaw09_LedgerFar.j0 k l0 a1 a2 t290 (decide (a1 > 4611686018427387904)))) = some r := by rw [if_pos rfl] at H; exact H
      clear H
      have H := H1
      clear H1
      by_cases c9 : a2 = 0
      · rw [if_pos c9] at H
        have c9b0 : (a2 == 0) = true := beq_iff_eq.mpr c9
        have c9b1 : (a2 != 0) = false := bne_eq_false_iff_eq.mpr c9
        clear c9
        (first | rw [c9b0] | (simp only [i64_w, i32_w]; rw [c9b0]) | skip)
        have H' := Aside0.mk H
        clear H
        go_wp2_with (first | ((with_reducible refine gate_callee (f := 11) rfl ?_); refine goesL_ (some 15) rfl rfl Try.func11 (by kernel_rfl) rfl #[.slice A0 l0.length c0] rfl (by (try simp only [List.map_toArray, List.map_cons, List.map_nil]); first | done | rfl | (simp only [List.length_drop, List.length_take]; rfl)) ?_; (with_reducible refine (wigwaglaw09_few.calls _ _ l0 true _ ?side1 ?side2 A7.out).mono ?_); (case side1 => repeat (first | exact (Kd.C_below HR0.out HB.out) | (with_reducible refine Kd.C_alloc ?_ _) | (with_reducible refine Kd.C_drewN ?_ _) | (with_reducible refine Kd.C_drew ?_))); (case side2 => exact HC0.out); rintro e w' ⟨rfl, ⟨nd, rfl⟩⟩; refine ⟨_, rfl, ?_⟩))
        go_meet
        case rel => exact ⟨_, (true), (by first | rfl | (simp; done) | (simp [*]; done)), H', ⟨by first | omega | exact Nat.le_refl _⟩, ⟨by repeat (first | (with_reducible first | exact HB.out | apply below_alloc | apply pw_below_drewN | apply below_drew1) | exact HB.out)⟩⟩
      · rw [if_neg c9] at H
        have c9b0 : (a2 == 0) = false := beq_eq_false_iff_ne.mpr c9
        have c9b1 : (a2 != 0) = true := bne_iff_ne.mpr c9
        (first | rw [c9b0] | (simp only [i64_w, i32_w]; rw [c9b0]) | skip)
        have H' := Aside0.mk H
        clear H
        go_wp2_with (first | ((with_reducible refine gate_callee (f := 11) rfl ?_); refine goesL_ (some 15) rfl rfl Try.func11 (by kernel_rfl) rfl #[.slice A0 l0.length c0] rfl (by (try simp only [List.map_toArray, List.map_cons, List.map_nil]); first | done | rfl | (simp only [List.length_drop, List.length_take]; rfl)) ?_; (with_reducible refine (wigwaglaw09_few.calls _ _ l0 true _ ?side1 ?side2 A7.out).mono ?_); (case side1 => repeat (first | exact (Kd.C_below HR0.out HB.out) | (with_reducible refine Kd.C_alloc ?_ _) | (with_reducible refine Kd.C_drewN ?_ _) | (with_reducible refine Kd.C_drew ?_))); (case side2 => exact HC0.out); rintro e w' ⟨rfl, ⟨nd, rfl⟩⟩; refine ⟨_, rfl, ?_⟩))
        go_meet
        case rel => exact ⟨_, (decide (a1 > 4611686018427387904)), (by first | rfl | (simp; done) | (simp [*]; done)), H', ⟨by first | omega | exact Nat.le_refl _⟩, ⟨by repeat (first | (with_reducible first | exact HB.out | apply below_alloc | apply pw_below_drewN | apply below_drew1) | exact HB.out)⟩⟩
    · replace c8 := Bool.eq_false_iff.mpr c8
      subst c8
      have H1 : (wigwaglaw09_LedgerFar.j0 k l0 a1 a2 t290 true) = some r := by rw [if_neg (show ¬ (false = true) by decide)] at H; exact H
      clear H
      have H := H1
      clear H1
      have H' := Aside0.mk H
      clear H
      go_wp2_with (first | ((with_reducible refine gate_callee (f := 11) rfl ?_); refine goesL_ (some 15) rfl rfl Try.func11 (by kernel_rfl) rfl #[.slice A0 l0.length c0] rfl (by (try simp only [List.map_toArray, List.map_cons, List.map_nil]); first | done | rfl | (simp only [List.length_drop, List.length_take]; rfl)) ?_; (with_reducible refine (wigwaglaw09_few.calls _ _ l0 false _ ?side1 ?side2 A7.out).mono ?_); (case side1 => repeat (first | exact (Kd.C_below HR0.out HB.out) | (with_reducible refine Kd.C_alloc ?_ _) | (with_reducible refine Kd.C_drewN ?_ _) | (with_reducible refine Kd.C_drew ?_))); (case side2 => exact HC0.out); rintro e w' ⟨rfl, ⟨nd, rfl⟩⟩; refine ⟨_, rfl, ?_⟩))
      go_meet
      case rel => exact ⟨_, (true), (by first | rfl | (simp; done) | (simp [*]; done)), H', ⟨by first | omega | exact Nat.le_refl _⟩, ⟨by repeat (first | (with_reducible first | exact HB.out | apply below_alloc | apply pw_below_drewN | apply below_drew1) | exact HB.out)⟩⟩
  case rest =>
    clear HC5
    try clear c1
    try clear p2
    try clear c7
    try clear c8
    try clear c9
    try clear c9b0
    try clear c9b1
    obtain ⟨kq, x24_4, rfl, HA, HJ4, HB⟩ := hcut
    cases kq with
    | zero => exact absurd HA.out (by simp [wigwaglaw09_LedgerFar.j0])
    | succ kj4 =>
      have H := HA.out
      clear HA
      simp only [wigwaglaw09_LedgerFar.j0] at H
      by_cases c10 : x24_4 = true
      · subst c10
        have H1 : (some t290) = some r := by rw [if_pos rfl] at H; exact H
        clear H
        have H := H1
        clear H1
        obtain rfl := Option.some.inj H
        go_wp2
        go_ret
        exact ⟨by first | rfl | (simp [errW_none, errW_some] <;> rfl) | (simp [*, errW_none, errW_some] <;> rfl), by repeat (first | (with_reducible first | exact HB.out | apply below_alloc | apply pw_below_drewN | apply below_drew1) | exact HB.out)⟩
      · replace c10 := Bool.eq_false_iff.mpr c10
        subst c10
        have H1 : ((ledger_Lost.f kj4 l0 a1 0 a2).bind fun bt292 => (wigwaglaw09_LedgerFar.l0 kj4 a1 t290 bt292.1 bt292.2.1 0)) = some r := by rw [if_neg (show ¬ (false = true) by decide)] at H; exact H
        clear H
        have H := H1
        clear H1
        replace H := Option.bind_eq_some_iff.mp H
        obtain ⟨⟨t292, t293, t294⟩, A110, H⟩ := H
        replace H : (wigwaglaw09_LedgerFar.l0 kj4 a1 t290 t292 t293 0) = some r := H
        have A11 := Aside0.mk A110
        clear A110
        have H' := Aside0.mk H
        clear H
        go_wp2_with (first | ((with_reducible refine gate_callee (f := 19) rfl ?_); refine goesL_ (some 30) rfl rfl Try.func19 (by kernel_rfl) rfl #[.slice A0 l0.length c0, .int .u64 a1, .int .u64 0, .int .u64 a2] rfl (by (try simp only [List.map_toArray, List.map_cons, List.map_nil]); first | done | rfl | (simp only [List.length_drop, List.length_take]; rfl)) ?_; (with_reducible refine (ledger_Lost.calls kj4 _ _ l0 a1 0 a2 t292 t293 t294 _ ?side1 ?side2 A11.out).mono ?_); (case side1 => repeat (first | exact (Kd.C_below HR0.out HB.out) | (with_reducible refine Kd.C_alloc ?_ _) | (with_reducible refine Kd.C_drewN ?_ _) | (with_reducible refine Kd.C_drew ?_))); (case side2 => exact HC0.out); rintro e w12 ⟨v295, v297, rfl, ho0, ho1, hb⟩; refine ⟨_, rfl, ?_⟩; have n0_ := Aside0.mk (Kd.R_lower ho0 (below_size (by repeat (first | (with_reducible first | exact HB.out | apply below_alloc | apply pw_below_drewN | apply below_drew1) | exact HB.out)))); have n1_ := Aside0.mk (Kd.R_lower ho1 (below_size (by repeat (first | (with_reducible first | exact HB.out | apply below_alloc | apply pw_below_drewN | apply below_drew1) | exact HB.out)))); have n2_ := Aside0.mk (below_step (by repeat (first | (with_reducible first | exact HB.out | apply below_alloc | apply pw_below_drewN | apply below_drew1) | exact HB.out)) hb); clear HB; have HO296 := n0_; have HO298 := n1_; have HB := n2_; clear n0_ n1_ n2_; (try clear hb); (try clear hb2); (try clear hk); (try clear hi); (try clear ho0); (try clear ho1)))
        go_loopg [11] kj4 (fun kq v11 w' => ∃ (x11_2 : Int), v11 = .int .i64 x11_2 ∧ Aside0 (wigwaglaw09_LedgerFar.l0 kq a1 t290 t292 t293 x11_2 = some r) ∧ Aside0 (kq ≤ kj4) ∧ Aside0 (Kd.R k37 37 w' w.heap.size (fun k_ => some k_ ≠ (v297 : Value).ownBlock) v295 t292) ∧ Aside0 (Kd.R k37 37 w' w.heap.size (fun k_ => some k_ ≠ (v295 : Value).ownBlock) v297 t293) ∧ Aside0 (Below w.heap.size w w'))
        case atStart => exact ⟨(0), (by first | rfl | (simp; done) | (simp [*]; done)), H', ⟨Nat.le_refl _⟩, ⟨by (with_reducible repeat (first | apply Kd.R_alloc | apply Kd.R_drewN | apply Kd.R_drew)); exact HO296.out⟩, ⟨by (with_reducible repeat (first | apply Kd.R_alloc | apply Kd.R_drewN | apply Kd.R_drew)); exact HO298.out⟩, ⟨by repeat (first | (with_reducible first | exact HB.out | apply below_alloc | apply pw_below_drewN | apply below_drew1) | exact HB.out)⟩⟩
        case round =>
          clear H'
          try clear c1
          try clear p2
          try clear c7
          try clear c8
          try clear c9
          try clear c9b0
          try clear c9b1
          try clear c10
          try clear c11
          try clear p2
          obtain ⟨x11_2, rfl, HA, HK2, HO_8, HO_9, HB⟩ := hrel
          cases gk with
          | zero => exact absurd HA.out (by simp [wigwaglaw09_LedgerFar.l0])
          | succ k2 =>
            have H := HA.out
            clear HA
            simp only [wigwaglaw09_LedgerFar.l0] at H
            by_cases c13 : x11_2 < (t292.length : Int)
            · rw [if_pos c13] at H
              have c13b0 : decide (x11_2 < (t292.length : Int)) = true := decide_eq_true c13
              clear c13
              by_cases c14 : 0 ≤ x11_2
              · rw [if_pos c14] at H
                have c14b0 : decide (0 ≤ x11_2) = true := decide_eq_true c14
                clear c14
                replace H := Option.bind_eq_some_iff.mp H
                obtain ⟨t300, A150, H⟩ := H
                replace H : (if t300 > a1 then (some false) else (wigwaglaw09_LedgerFar.l0 k2 a1 t290 t292 t293 (wrap64 (x11_2 + 1)))) = some r := H
                have A15 := Aside0.mk A150
                clear A150
                by_cases c16 : t300 > a1
                · rw [if_pos c16] at H
                  have c16b0 : decide (a1 < t300) = true := decide_eq_true c16
                  clear c16
                  obtain rfl := Option.some.inj H
                  obtain ⟨Ao17, co17, eo17⟩ := Kd.R_slice HO_8.out
                  subst eo17
                  have p299 : 0 ≤ (x11_2 : Int) := of_decide_eq_true (by first | (with_reducible assumption) | assumption)
                  have q299 : x11_2 < (t292.length : Int) := of_decide_eq_true (by first | (with_reducible assumption) | assumption)
                  obtain ⟨ad299, e299, hx299_0, hx299_1, hx299_2, hx299_3⟩ := at_T37 (Kd.R_reads' HO_8.out).2.2 x11_2 p299 q299
                  cases e299
                  replace p299 := eq_true p299
                  replace q299 := eq_true q299
                  go_wp2_with (first | ((with_reducible refine gate_callee (f := 23) rfl ?_); refine goesL_ (some 45) rfl rfl Try.func23 (by kernel_rfl) rfl #[.int .u64 ((rd_T37 t292 x11_2).f0), .int .u64 4] rfl (by (try simp only [List.map_toArray, List.map_cons, List.map_nil]); first | done | rfl | (simp only [List.length_drop, List.length_take]; rfl)) ?_; (with_reducible refine (wigwagref01_Add.calls ((rd_T37 t292 x11_2).f0) 4 t300 _ A15.out).mono ?_); rintro e w' ⟨rfl, ⟨nd, rfl⟩⟩; refine ⟨_, rfl, ?_⟩))
                  go_ret
                  exact ⟨by first | rfl | (simp [errW_none, errW_some] <;> rfl) | (simp [*, errW_none, errW_some] <;> rfl), by repeat (first | (with_reducible first | exact HB.out | apply below_alloc | apply pw_below_drewN | apply below_drew1) | exact HB.out)⟩
                · rw [if_neg c16] at H
                  have c16b0 : decide (a1 < t300) = false := decide_eq_false c16
                  clear c16
                  have H' := Aside0.mk H
                  clear H
                  obtain ⟨Ao18, co18, eo18⟩ := Kd.R_slice HO_8.out
                  subst eo18
                  have p299 : 0 ≤ (x11_2 : Int) := of_decide_eq_true (by first | (with_reducible assumption) | assumption)
                  have q299 : x11_2 < (t292.length : Int) := of_decide_eq_true (by first | (with_reducible assumption) | assumption)
                  obtain ⟨ad299, e299, hx299_0, hx299_1, hx299_2, hx299_3⟩ := at_T37 (Kd.R_reads' HO_8.out).2.2 x11_2 p299 q299
                  cases e299
                  replace p299 := eq_true p299
                  replace q299 := eq_true q299
                  go_wp2_with (first | ((with_reducible refine gate_callee (f := 23) rfl ?_); refine goesL_ (some 45) rfl rfl Try.func23 (by kernel_rfl) rfl #[.int .u64 ((rd_T37 t292 x11_2).f0), .int .u64 4] rfl (by (try simp only [List.map_toArray, List.map_cons, List.map_nil]); first | done | rfl | (simp only [List.length_drop, List.length_take]; rfl)) ?_; (with_reducible refine (wigwagref01_Add.calls ((rd_T37 t292 x11_2).f0) 4 t300 _ A15.out).mono ?_); rintro e w' ⟨rfl, ⟨nd, rfl⟩⟩; refine ⟨_, rfl, ?_⟩))
                  go_roundg k2
                  case measure => have := HJ4.out; have := HK2.out; omega
                  case rel => exact ⟨(wrap64 (x11_2 + 1)), (by first | rfl | (simp; done) | (simp [*]; done)), H', ⟨by have := HJ4.out; have := HK2.out; omega⟩, ⟨by (with_reducible repeat (first | apply Kd.R_alloc | apply Kd.R_drewN | apply Kd.R_drew)); exact HO_8.out⟩, ⟨by (with_reducible repeat (first | apply Kd.R_alloc | apply Kd.R_drewN | apply Kd.R_drew)); exact HO_9.out⟩, ⟨by repeat (first | (with_reducible first | exact HB.out | apply below_alloc | apply pw_below_drewN | apply below_drew1) | exact HB.out)⟩⟩
              · rw [if_neg c14] at H
                exact absurd H (by simp)
            · rw [if_neg c13] at H
              have c13b0 : decide (x11_2 < (t292.length : Int)) = false := decide_eq_false c13
              clear c13
              have H' := Aside0.mk H
              clear H
              obtain ⟨Ao19, co19, eo19⟩ := Kd.R_slice HO_8.out
              subst eo19
              go_wp2
              go_loopg [12] k2 (fun kq v12 w' => ∃ (x12_3 : Int), v12 = .int .i64 x12_3 ∧ Aside0 (wigwaglaw09_LedgerFar.l1 kq a1 t290 t293 x12_3 = some r) ∧ Aside0 (kq ≤ k2) ∧ Aside0 (Kd.R k37 37 w' w.heap.size (fun _ => True) v297 t293) ∧ Aside0 (Below w.heap.size w w'))
              case atStart => exact ⟨(0), (by first | rfl | (simp; done) | (simp [*]; done)), H', ⟨Nat.le_refl _⟩, ⟨by (with_reducible repeat (first | apply Kd.R_alloc | apply Kd.R_drewN | apply Kd.R_drew)); exact Kd.R_mono HO_9.out (fun _ hk => trivial)⟩, ⟨by repeat (first | (with_reducible first | exact HB.out | apply below_alloc | apply pw_below_drewN | apply below_drew1) | exact HB.out)⟩⟩
              case round =>
                clear H'
                try clear c1
                try clear c2
                try clear p2
                try clear q2
                try clear hx2
                try clear p6
                try clear c7
                try clear c8
                try clear c9
                try clear c9b0
                try clear c9b1
                try clear c10
                try clear c11
                try clear c13
                try clear c13b0
                try clear c14
                try clear c14b0
                try clear c16
                try clear c16b0
                try clear c19
                try clear hx299_0
                try clear hx299_1
                try clear hx299_2
                try clear hx299_3
                try clear p2
                try clear p299
                try clear q299
                obtain ⟨x12_3, rfl, HA, HK3, HO_9, HB⟩ := hrel
                cases gk with
                | zero => exact absurd HA.out (by simp [wigwaglaw09_LedgerFar.l1])
                | succ k3 =>
                  have H := HA.out
                  clear HA
                  simp only [wigwaglaw09_LedgerFar.l1] at H
                  by_cases c20 : x12_3 < (t293.length : Int)
                  · rw [if_pos c20] at H
                    have c20b0 : decide (x12_3 < (t293.length : Int)) = true := decide_eq_true c20
                    clear c20
                    by_cases c21 : 0 ≤ x12_3
                    · rw [if_pos c21] at H
                      have c21b0 : decide (0 ≤ x12_3) = true := decide_eq_true c21
                      clear c21
                      replace H := Option.bind_eq_some_iff.mp H
                      obtain ⟨t302, A220, H⟩ := H
                      replace H : (if t302 ≤ a1 then (some false) else (wigwaglaw09_LedgerFar.l1 k3 a1 t290 t293 (wrap64 (x12_3 + 1)))) = some r := H
                      have A22 := Aside0.mk A220
                      clear A220
                      by_cases c23 : t302 ≤ a1
                      · rw [if_pos c23] at H
                        have c23b0 : decide (t302 ≤ a1) = true := decide_eq_true c23
                        clear c23
                        obtain rfl := Option.some.inj H
                        obtain ⟨Ao24, co24, eo24⟩ := Kd.R_slice HO_9.out
                        subst eo24
                        have p301 : 0 ≤ (x12_3 : Int) := of_decide_eq_true (by first | (with_reducible assumption) | assumption)
                        have q301 : x12_3 < (t293.length : Int) := of_decide_eq_true (by first | (with_reducible assumption) | assumption)
                        obtain ⟨ad301, e301, hx301_0, hx301_1, hx301_2, hx301_3⟩ := at_T37 (Kd.R_reads' HO_9.out).2.2 x12_3 p301 q301
                        cases e301
                        replace p301 := eq_true p301
                        replace q301 := eq_true q301
                        go_wp2_with (first | ((with_reducible refine gate_callee (f := 23) rfl ?_); refine goesL_ (some 59) rfl rfl Try.func23 (by kernel_rfl) rfl #[.int .u64 ((rd_T37 t293 x12_3).f0), .int .u64 4] rfl (by (try simp only [List.map_toArray, List.map_cons, List.map_nil]); first | done | rfl | (simp only [List.length_drop, List.length_take]; rfl)) ?_; (with_reducible refine (wigwagref01_Add.calls ((rd_T37 t293 x12_3).f0) 4 t302 _ A22.out).mono ?_); rintro e w' ⟨rfl, ⟨nd, rfl⟩⟩; refine ⟨_, rfl, ?_⟩))
                        go_ret
                        exact ⟨by first | rfl | (simp [errW_none, errW_some] <;> rfl) | (simp [*, errW_none, errW_some] <;> rfl), by repeat (first | (with_reducible first | exact HB.out | apply below_alloc | apply pw_below_drewN | apply below_drew1) | exact HB.out)⟩
                      · rw [if_neg c23] at H
                        have c23b0 : decide (t302 ≤ a1) = false := decide_eq_false c23
                        clear c23
                        have H' := Aside0.mk H
                        clear H
                        obtain ⟨Ao25, co25, eo25⟩ := Kd.R_slice HO_9.out
                        subst eo25
                        have p301 : 0 ≤ (x12_3 : Int) := of_decide_eq_true (by first | (with_reducible assumption) | assumption)
                        have q301 : x12_3 < (t293.length : Int) := of_decide_eq_true (by first | (with_reducible assumption) | assumption)
                        obtain ⟨ad301, e301, hx301_0, hx301_1, hx301_2, hx301_3⟩ := at_T37 (Kd.R_reads' HO_9.out).2.2 x12_3 p301 q301
                        cases e301
                        replace p301 := eq_true p301
                        replace q301 := eq_true q301
                        go_wp2_with (first | ((with_reducible refine gate_callee (f := 23) rfl ?_); refine goesL_ (some 59) rfl rfl Try.func23 (by kernel_rfl) rfl #[.int .u64 ((rd_T37 t293 x12_3).f0), .int .u64 4] rfl (by (try simp only [List.map_toArray, List.map_cons, List.map_nil]); first | done | rfl | (simp only [List.length_drop, List.length_take]; rfl)) ?_; (with_reducible refine (wigwagref01_Add.calls ((rd_T37 t293 x12_3).f0) 4 t302 _ A22.out).mono ?_); rintro e w' ⟨rfl, ⟨nd, rfl⟩⟩; refine ⟨_, rfl, ?_⟩))
                        go_roundg k3
                        case measure => have := HJ4.out; have := HK2.out; have := HK3.out; omega
                        case rel => exact ⟨(wrap64 (x12_3 + 1)), (by first | rfl | (simp; done) | (simp [*]; done)), H', ⟨by have := HJ4.out; have := HK2.out; have := HK3.out; omega⟩, ⟨by (with_reducible repeat (first | apply Kd.R_alloc | apply Kd.R_drewN | apply Kd.R_drew)); exact HO_9.out⟩, ⟨by repeat (first | (with_reducible first | exact HB.out | apply below_alloc | apply pw_below_drewN | apply below_drew1) | exact HB.out)⟩⟩
                    · rw [if_neg c21] at H
                      exact absurd H (by simp)
                  · rw [if_neg c20] at H
                    have c20b0 : decide (x12_3 < (t293.length : Int)) = false := decide_eq_false c20
                    clear c20
                    obtain rfl := Option.some.inj H
                    obtain ⟨Ao26, co26, eo26⟩ := Kd.R_slice HO_9.out
                    subst eo26
                    go_wp2
                    go_ret
                    exact ⟨by first | rfl | (simp [errW_none, errW_some] <;> rfl) | (simp [*, errW_none, errW_some] <;> rfl), by repeat (first | (with_reducible first | exact HB.out | apply below_alloc | apply pw_below_drewN | apply below_drew1) | exact HB.out)⟩

end Go.Proofs.Ytfgmikhlplbmeaa.P
