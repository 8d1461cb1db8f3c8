-- Printed for this claim by xprint.py of this session: contracts of this session's own stand in for what the print does not take
import Derived.Test.YtiekeofcfpnlkaaPx0
import Derived.Test.YtiekeofcfpnlkaaPx2
import Derived.Test.YtiekeofcfpnlkaaPx3
import Derived.Test.YtiekeofcfpnlkaaPx4
namespace Go.Proofs.Ytiekeofcfpnlkaa.P
open Go.RowKit Go.Proofs.YtiekeofcfpnlkaaW.PrintWords Go.Proofs.YtiekeofcfpnlkaaW.PrintLast Go.Proofs.YtiekeofcfpnlkaaW.PrintMore
attribute [local go_sem] max2_int min2_int max_two min_two max_three min_three max_four min_four   -- for this text's walks alone
set_option linter.unusedVariables false
set_option linter.unusedSimpArgs false

/-! ### wigwaglaw16_PacerWaits: function 5 -/
def wigwaglaw16_PacerWaits.j0 : Nat → Int → Int → Int → Int → Bool → Bool → Int → Int → Int → Option (Bool)
  | 0, _, _, _, _, _, _, _, _, _ => none
  | k + 1, x0, x3, x4, x5, x13, x40, x211000, x211001, x211002 => if x40 = true then (some x13) else ((pacer_Wait.f x211000 x211001 x211002 (IntKind.u64.wrap (x4)) (IntKind.u64.wrap (x3))).bind fun t211 => (if x4 ≤ x0 then (if x13 = true then (some (t211 == 0)) else (some false)) else ((pacer_Fill.f x211000 x211001 x211002 (IntKind.u64.wrap (x211000 + t211)) (IntKind.u64.wrap (x3)) (IntKind.u64.wrap (x5))).bind fun bt212 => ((pacer_Take.f bt212.1 bt212.2.1 bt212.2.2 (IntKind.u64.wrap (x4))).bind fun bt215 => ((pacer_Fill.f x211000 x211001 x211002 (IntKind.u64.wrap ((IntKind.u64.wrap (x211000 + t211)) - 1)) (IntKind.u64.wrap (x3)) (IntKind.u64.wrap (x5))).bind fun bt220 => ((pacer_Take.f bt220.1 bt220.2.1 bt220.2.2 (IntKind.u64.wrap (x4))).bind fun bt223 => (if x13 = true then (if t211 > 0 then (if bt215.2.2.2 = true then (some (!bt223.2.2.2)) else (some false)) else (some false)) else (some false))))))))
def wigwaglaw16_PacerWaits.f (k : Nat) (a0 : Int) (a1 : Int) (a2 : Int) (a3 : Int) (a4 : Int) (a5 : Int) : Option (Bool) := (wigwaglaw16_awake.f).bind fun t209 => (if a4 > a5 then (wigwaglaw16_PacerWaits.j0 k a0 a3 a4 a5 t209 true (IntKind.u64.wrap (a2)) (IntKind.u64.wrap (a0)) (Int.tmod (IntKind.u64.wrap (a1)) 1000)) else (if a0 ≥ a5 then (wigwaglaw16_PacerWaits.j0 k a0 a3 a4 a5 t209 true (IntKind.u64.wrap (a2)) (IntKind.u64.wrap (a0)) (Int.tmod (IntKind.u64.wrap (a1)) 1000)) else (wigwaglaw16_PacerWaits.j0 k a0 a3 a4 a5 t209 (a3 == 0) (IntKind.u64.wrap (a2)) (IntKind.u64.wrap (a0)) (Int.tmod (IntKind.u64.wrap (a1)) 1000))))
theorem wigwaglaw16_PacerWaits.mono_l : ∀ k, (∀ y0 y1 y2 y3 y4 y5 y6 y7 y8, LeO (wigwaglaw16_PacerWaits.j0 k y0 y1 y2 y3 y4 y5 y6 y7 y8) (wigwaglaw16_PacerWaits.j0 (k + 1) y0 y1 y2 y3 y4 y5 y6 y7 y8))
  | 0 => fun _ _ _ _ _ _ _ _ _ r h => by simp [wigwaglaw16_PacerWaits.j0] at h
  | k + 1 => by
    have ih0 := wigwaglaw16_PacerWaits.mono_l k
    · intro y0 y1 y2 y3 y4 y5 y6 y7 y8
      unfold wigwaglaw16_PacerWaits.j0
      repeat' first
      | (with_reducible exact ih0 _ _ _ _ _ _ _ _ _)
      | (with_reducible exact LeO.refl _)
      | (with_reducible exact LeO.none _)
      | (with_reducible refine LeO.ite ?_ ?_)
      | (with_reducible refine LeO.bind ?_ (fun _ => ?_))
      | exact ih0 _ _ _ _ _ _ _ _ _
      | exact LeO.none _
      | refine LeO.ite ?_ ?_
      | refine LeO.bind ?_ (fun _ => ?_)
theorem wigwaglaw16_PacerWaits.mono : ∀ a0 a1 a2 a3 a4 a5 k, LeO (wigwaglaw16_PacerWaits.f k a0 a1 a2 a3 a4 a5) (wigwaglaw16_PacerWaits.f (k + 1) a0 a1 a2 a3 a4 a5) := by
  intro a0 a1 a2 a3 a4 a5 k
  have ih0 := wigwaglaw16_PacerWaits.mono_l k
  unfold wigwaglaw16_PacerWaits.f
  repeat' first
      | (with_reducible exact ih0 _ _ _ _ _ _ _ _ _)
      | (with_reducible exact LeO.refl _)
      | (with_reducible exact LeO.none _)
      | (with_reducible refine LeO.ite ?_ ?_)
      | (with_reducible refine LeO.bind ?_ (fun _ => ?_))
      | exact ih0 _ _ _ _ _ _ _ _ _
      | exact LeO.none _
      | refine LeO.ite ?_ ?_
      | refine LeO.bind ?_ (fun _ => ?_)
set_option maxHeartbeats 8000000 in
set_option maxRecDepth 100000 in
theorem wigwaglaw16_PacerWaits.calls (k : Nat) (a0 : Int) (a1 : Int) (a2 : Int) (a3 : Int) (a4 : Int) (a5 : Int) (r : Bool) (w : World) (h : wigwaglaw16_PacerWaits.f k a0 a1 a2 a3 a4 a5 = some r) :
    Calls Try.prog 5 #[.int .u32 a0, .int .u16 a1, .int .u32 a2, .int .u32 a3, .int .u32 a4, .int .u32 a5] w fun e w' => e = .returned (.bool r) ∧ Below w.heap.size w w' := by
  have hu24 := Try.underlying24
  have HB := Aside0.mk (Below.refl w.heap.size w)
  have H : ((wigwaglaw16_awake.f).bind fun t209 => (if a4 > a5 then (wigwaglaw16_PacerWaits.j0 k a0 a3 a4 a5 t209 true (IntKind.u64.wrap (a2)) (IntKind.u64.wrap (a0)) (Int.tmod (IntKind.u64.wrap (a1)) 1000)) else (if a0 ≥ a5 then (wigwaglaw16_PacerWaits.j0 k a0 a3 a4 a5 t209 true (IntKind.u64.wrap (a2)) (IntKind.u64.wrap (a0)) (Int.tmod (IntKind.u64.wrap (a1)) 1000)) else (wigwaglaw16_PacerWaits.j0 k a0 a3 a4 a5 t209 (a3 == 0) (IntKind.u64.wrap (a2)) (IntKind.u64.wrap (a0)) (Int.tmod (IntKind.u64.wrap (a1)) 1000))))) = some r := h
  clear h
  replace H := Option.bind_eq_some_iff.mp H
  obtain ⟨t209, A70, H⟩ := H
  replace H : (if a4 > a5 then (wigwaglaw16_PacerWaits.j0 k a0 a3 a4 a5 t209 true (IntKind.u64.wrap (a2)) (IntKind.u64.wrap (a0)) (Int.tmod (IntKind.u64.wrap (a1)) 1000)) else (if a0 ≥ a5 then (wigwaglaw16_PacerWaits.j0 k a0 a3 a4 a5 t209 true (IntKind.u64.wrap (a2)) (IntKind.u64.wrap (a0)) (Int.tmod (IntKind.u64.wrap (a1)) 1000)) else (wigwaglaw16_PacerWaits.j0 k a0 a3 a4 a5 t209 (a3 == 0) (IntKind.u64.wrap (a2)) (IntKind.u64.wrap (a0)) (Int.tmod (IntKind.u64.wrap (a1)) 1000)))) = some r := H
  have A7 := Aside0.mk A70
  clear A70
  have HC8 := Aside0.mk H
  clear H
  go_enter Try.func5, Try.ntmps5
  go_upto_region 3 with (first | ((with_reducible refine gate_callee (f := 8) rfl ?_); refine goesL_ (some 20) rfl rfl Try.func8 (by kernel_rfl) rfl #[] rfl (by (try simp only [List.map_toArray, List.map_cons, List.map_nil]); first | done | rfl | (simp only [List.length_drop, List.length_take]; rfl)) ?_; (with_reducible refine (wigwaglaw16_awake.calls  t209 _ A7.out).mono ?_); rintro e w9 ⟨rfl, hb⟩; refine ⟨_, rfl, ?_⟩; have n0_ := Aside0.mk (below_step (by repeat (first | (with_reducible first | exact HB.out | apply below_alloc | apply pw_below_drewN | apply below_drew1) | exact HB.out)) hb); clear HB; have HB := n0_; clear n0_; (try clear hb); (try clear hb2); (try clear hk); (try clear hi)) | ((with_reducible refine gate_dst (N := 14) rfl ?_); refine box_event ?hg (N := 14) ?hd (cs := #[.int .u64 0, .int .u64 0, .int .u64 0]) (t := 24) ?hr ?_; (case hd => rfl); (case hg => rfl); (case hr => first | (go_simp; done) | (go_simp; rfl)); intro gb210 hg w10 hbox hb; have n0_ := Aside0.mk (below_step (by repeat (first | (with_reducible first | exact HB.out | apply below_alloc | apply pw_below_drewN | apply below_drew1) | exact HB.out)) hb); have n1_ := Aside0.mk (hbox); have n2_ := Aside0.mk ((by rw [hg]; exact (below_size (by repeat (first | (with_reducible first | exact HB.out | apply below_alloc | apply pw_below_drewN | apply below_drew1) | exact HB.out))) : w.heap.size ≤ gb210)); have n3_ := Aside0.mk ((by rw [hg]; exact (below_size (by repeat (first | (with_reducible first | exact HB.out | apply below_alloc | apply pw_below_drewN | apply below_drew1) | exact HB.out))) : w.heap.size ≤ gb210)); clear HB; have HB := n0_; have BK210 := n1_; have GW210 := n2_; have GE210 := n3_; clear n0_ n1_ n2_ n3_; clear hb hbox hg; have hcz11_0 : w10.cell? ⟨gb210, 0, none⟩ = some (.int .u64 0) := (blk_cell BK210.out 0).trans rfl; have hcz11_1 : w10.cell? ⟨gb210, 1, none⟩ = some (.int .u64 0) := (blk_cell BK210.out 1).trans rfl; have hcz11_2 : w10.cell? ⟨gb210, 2, none⟩ = some (.int .u64 0) := (blk_cell BK210.out 2).trans rfl; have hfz11_0 := blk_frozen BK210.out 0; have hfz11_1 := blk_frozen BK210.out 1; have hfz11_2 := blk_frozen BK210.out 2))
  (try simp only [Act.put, List.setIfInBounds_toArray, List.set_cons_zero, List.set_cons_succ])
  go_cut [40] (fun v40 wc => ∃ (kq : Nat) (x40_7 : Bool), v40 = .bool x40_7 ∧ Aside0 (wigwaglaw16_PacerWaits.j0 kq a0 a3 a4 a5 t209 x40_7 (IntKind.u64.wrap (a2)) (IntKind.u64.wrap (a0)) (Int.tmod (IntKind.u64.wrap (a1)) 1000) = some r) ∧ Aside0 (kq ≤ k) ∧ Aside0 (wc.heap[gb210]? = some (.cells #[.int .u64 (IntKind.u64.wrap (a2)), .int .u64 (IntKind.u64.wrap (a0)), .int .u64 (Int.tmod (IntKind.u64.wrap (a1)) 1000)] 24 (0, 0))) ∧ Aside0 (Below w.heap.size w wc))
  case first =>
    have H := HC8.out
    clear HC8
    by_cases c12 : a4 > a5
    · rw [if_pos c12] at H
      have c12b0 : decide (a5 < a4) = true := decide_eq_true c12
      clear c12
      (first | rw [c12b0] | (simp only [i64_w, i32_w]; rw [c12b0]) | skip)
      have H' := Aside0.mk H
      clear H
      go_wp2
      go_meet
      case rel => exact ⟨_, (true), (by first | rfl | (simp; done) | (simp [*]; done)), H', ⟨by first | omega | exact Nat.le_refl _⟩, ⟨by (with_reducible repeat (first | refine blk_drewN ?_ _ | refine blk_drew ?_ | refine blk_alloc ?_ _)); refine blk_put (cs := #[.int .u64 (IntKind.u64.wrap (a2)), .int .u64 (IntKind.u64.wrap (a0)), .int .u64 0]) ?_ 2 _ rfl; (with_reducible repeat (first | refine blk_drewN ?_ _ | refine blk_drew ?_ | refine blk_alloc ?_ _)); refine blk_put (cs := #[.int .u64 (IntKind.u64.wrap (a2)), .int .u64 0, .int .u64 0]) ?_ 1 _ rfl; (with_reducible repeat (first | refine blk_drewN ?_ _ | refine blk_drew ?_ | refine blk_alloc ?_ _)); refine blk_put (cs := #[.int .u64 0, .int .u64 0, .int .u64 0]) ?_ 0 _ rfl; (with_reducible repeat (first | refine blk_drewN ?_ _ | refine blk_drew ?_ | refine blk_alloc ?_ _)); exact BK210.out⟩, ⟨by repeat (first | (with_reducible first | exact HB.out | apply below_alloc | apply pw_below_drewN | apply below_drew1 | refine below_set ?_ GE210.out) | exact HB.out)⟩⟩
    · rw [if_neg c12] at H
      have c12b0 : decide (a5 < a4) = false := decide_eq_false c12
      clear c12
      (first | rw [c12b0] | (simp only [i64_w, i32_w]; rw [c12b0]) | skip)
      by_cases c13 : a0 ≥ a5
      · rw [if_pos c13] at H
        have c13b0 : decide (a5 ≤ a0) = true := decide_eq_true c13
        clear c13
        have H' := Aside0.mk H
        clear H
        go_wp2
        go_meet
        case rel => exact ⟨_, (true), (by first | rfl | (simp; done) | (simp [*]; done)), H', ⟨by first | omega | exact Nat.le_refl _⟩, ⟨by (with_reducible repeat (first | refine blk_drewN ?_ _ | refine blk_drew ?_ | refine blk_alloc ?_ _)); refine blk_put (cs := #[.int .u64 (IntKind.u64.wrap (a2)), .int .u64 (IntKind.u64.wrap (a0)), .int .u64 0]) ?_ 2 _ rfl; (with_reducible repeat (first | refine blk_drewN ?_ _ | refine blk_drew ?_ | refine blk_alloc ?_ _)); refine blk_put (cs := #[.int .u64 (IntKind.u64.wrap (a2)), .int .u64 0, .int .u64 0]) ?_ 1 _ rfl; (with_reducible repeat (first | refine blk_drewN ?_ _ | refine blk_drew ?_ | refine blk_alloc ?_ _)); refine blk_put (cs := #[.int .u64 0, .int .u64 0, .int .u64 0]) ?_ 0 _ rfl; (with_reducible repeat (first | refine blk_drewN ?_ _ | refine blk_drew ?_ | refine blk_alloc ?_ _)); exact BK210.out⟩, ⟨by repeat (first | (with_reducible first | exact HB.out | apply below_alloc | apply pw_below_drewN | apply below_drew1 | refine below_set ?_ GE210.out) | exact HB.out)⟩⟩
      · rw [if_neg c13] at H
        have c13b0 : decide (a5 ≤ a0) = false := decide_eq_false c13
        clear c13
        have H' := Aside0.mk H
        clear H
        go_wp2
        go_meet
        case rel => exact ⟨_, ((a3 == 0)), (by first | rfl | (simp; done) | (simp [*]; done)), H', ⟨by first | omega | exact Nat.le_refl _⟩, ⟨by (with_reducible repeat (first | refine blk_drewN ?_ _ | refine blk_drew ?_ | refine blk_alloc ?_ _)); refine blk_put (cs := #[.int .u64 (IntKind.u64.wrap (a2)), .int .u64 (IntKind.u64.wrap (a0)), .int .u64 0]) ?_ 2 _ rfl; (with_reducible repeat (first | refine blk_drewN ?_ _ | refine blk_drew ?_ | refine blk_alloc ?_ _)); refine blk_put (cs := #[.int .u64 (IntKind.u64.wrap (a2)), .int .u64 0, .int .u64 0]) ?_ 1 _ rfl; (with_reducible repeat (first | refine blk_drewN ?_ _ | refine blk_drew ?_ | refine blk_alloc ?_ _)); refine blk_put (cs := #[.int .u64 0, .int .u64 0, .int .u64 0]) ?_ 0 _ rfl; (with_reducible repeat (first | refine blk_drewN ?_ _ | refine blk_drew ?_ | refine blk_alloc ?_ _)); exact BK210.out⟩, ⟨by repeat (first | (with_reducible first | exact HB.out | apply below_alloc | apply pw_below_drewN | apply below_drew1 | refine below_set ?_ GE210.out) | exact HB.out)⟩⟩
  case rest =>
    clear HC8
    try clear c1
    try clear p2
    try clear c5
    try clear c8
    try clear c12
    try clear c12b0
    try clear c13
    try clear c13b0
    try clear hcz11_0
    try clear hcz11_1
    try clear hcz11_2
    try clear hfz11_0
    try clear hfz11_1
    try clear hfz11_2
    obtain ⟨kq, x40_7, rfl, HA, HJ7, BK210, HB⟩ := hcut
    cases kq with
    | zero => exact absurd HA.out (by simp [wigwaglaw16_PacerWaits.j0])
    | succ kj7 =>
      have H := HA.out
      clear HA
      simp only [wigwaglaw16_PacerWaits.j0] at H
      by_cases c14 : x40_7 = true
      · subst c14
        have H1 : (some t209) = some r := by rw [if_pos rfl] at H; exact H
        clear H
        have H := H1
        clear H1
        obtain rfl := Option.some.inj H
        go_wp2
        go_ret
        exact ⟨by first | rfl | (simp [errW_none, errW_some] <;> rfl) | (simp [*, errW_none, errW_some] <;> rfl), by repeat (first | (with_reducible first | exact HB.out | apply below_alloc | apply pw_below_drewN | apply below_drew1 | refine below_set ?_ GE210.out) | exact HB.out)⟩
      · replace c14 := Bool.eq_false_iff.mpr c14
        subst c14
        have H1 : ((pacer_Wait.f (IntKind.u64.wrap (a2)) (IntKind.u64.wrap (a0)) (Int.tmod (IntKind.u64.wrap (a1)) 1000) (IntKind.u64.wrap (a4)) (IntKind.u64.wrap (a3))).bind fun t211 => (if a4 ≤ a0 then (if t209 = true then (some (t211 == 0)) else (some false)) else ((pacer_Fill.f (IntKind.u64.wrap (a2)) (IntKind.u64.wrap (a0)) (Int.tmod (IntKind.u64.wrap (a1)) 1000) (IntKind.u64.wrap ((IntKind.u64.wrap (a2)) + t211)) (IntKind.u64.wrap (a3)) (IntKind.u64.wrap (a5))).bind fun bt212 => ((pacer_Take.f bt212.1 bt212.2.1 bt212.2.2 (IntKind.u64.wrap (a4))).bind fun bt215 => ((pacer_Fill.f (IntKind.u64.wrap (a2)) (IntKind.u64.wrap (a0)) (Int.tmod (IntKind.u64.wrap (a1)) 1000) (IntKind.u64.wrap ((IntKind.u64.wrap ((IntKind.u64.wrap (a2)) + t211)) - 1)) (IntKind.u64.wrap (a3)) (IntKind.u64.wrap (a5))).bind fun bt220 => ((pacer_Take.f bt220.1 bt220.2.1 bt220.2.2 (IntKind.u64.wrap (a4))).bind fun bt223 => (if t209 = true then (if t211 > 0 then (if bt215.2.2.2 = true then (some (!bt223.2.2.2)) else (some false)) else (some false)) else (some false)))))))) = some r := by rw [if_neg (show ¬ (false = true) by decide)] at H; exact H
        clear H
        have H := H1
        clear H1
        replace H := Option.bind_eq_some_iff.mp H
        obtain ⟨t211, A150, H⟩ := H
        replace H : (if a4 ≤ a0 then (if t209 = true then (some (t211 == 0)) else (some false)) else ((pacer_Fill.f (IntKind.u64.wrap (a2)) (IntKind.u64.wrap (a0)) (Int.tmod (IntKind.u64.wrap (a1)) 1000) (IntKind.u64.wrap ((IntKind.u64.wrap (a2)) + t211)) (IntKind.u64.wrap (a3)) (IntKind.u64.wrap (a5))).bind fun bt212 => ((pacer_Take.f bt212.1 bt212.2.1 bt212.2.2 (IntKind.u64.wrap (a4))).bind fun bt215 => ((pacer_Fill.f (IntKind.u64.wrap (a2)) (IntKind.u64.wrap (a0)) (Int.tmod (IntKind.u64.wrap (a1)) 1000) (IntKind.u64.wrap ((IntKind.u64.wrap ((IntKind.u64.wrap (a2)) + t211)) - 1)) (IntKind.u64.wrap (a3)) (IntKind.u64.wrap (a5))).bind fun bt220 => ((pacer_Take.f bt220.1 bt220.2.1 bt220.2.2 (IntKind.u64.wrap (a4))).bind fun bt223 => (if t209 = true then (if t211 > 0 then (if bt215.2.2.2 = true then (some (!bt223.2.2.2)) else (some false)) else (some false)) else (some false))))))) = some r := H
        have A15 := Aside0.mk A150
        clear A150
        by_cases c16 : a4 ≤ a0
        · rw [if_pos c16] at H
          have c16b0 : decide (a4 ≤ a0) = true := decide_eq_true c16
          clear c16
          have HS17 := Aside0.mk H
          clear H
          have hcz18_0 : wc.cell? ⟨gb210, 0, none⟩ = some (.int .u64 (IntKind.u64.wrap (a2))) := (blk_cell BK210.out 0).trans rfl
          have hcz18_1 : wc.cell? ⟨gb210, 1, none⟩ = some (.int .u64 (IntKind.u64.wrap (a0))) := (blk_cell BK210.out 1).trans rfl
          have hcz18_2 : wc.cell? ⟨gb210, 2, none⟩ = some (.int .u64 (Int.tmod (IntKind.u64.wrap (a1)) 1000)) := (blk_cell BK210.out 2).trans rfl
          have hfz18_0 := blk_frozen BK210.out 0
          have hfz18_1 := blk_frozen BK210.out 1
          have hfz18_2 := blk_frozen BK210.out 2
          go_upto_region 7 with (first | ((with_reducible refine gate_callee (f := 15) rfl ?_); refine goesL_ (some 47) rfl rfl Try.func15 (by kernel_rfl) rfl #[.agg #[.int .u64 (IntKind.u64.wrap (a2)), .int .u64 (IntKind.u64.wrap (a0)), .int .u64 (Int.tmod (IntKind.u64.wrap (a1)) 1000)], .int .u64 (IntKind.u64.wrap (a4)), .int .u64 (IntKind.u64.wrap (a3))] rfl (by (try simp only [List.map_toArray, List.map_cons, List.map_nil]); first | done | rfl | (simp only [List.length_drop, List.length_take]; rfl)) ?_; (with_reducible refine (pacer_Wait.calls (IntKind.u64.wrap (a2)) (IntKind.u64.wrap (a0)) (Int.tmod (IntKind.u64.wrap (a1)) 1000) (IntKind.u64.wrap (a4)) (IntKind.u64.wrap (a3)) t211 _ A15.out).mono ?_); rintro e w19 ⟨rfl, hb⟩; refine ⟨_, rfl, ?_⟩; have n0_ := Aside0.mk (blk_below (g := gb210) (o := .cells #[.int .u64 (IntKind.u64.wrap (a2)), .int .u64 (IntKind.u64.wrap (a0)), .int .u64 (Int.tmod (IntKind.u64.wrap (a1)) 1000)] 24 (0, 0)) (by (with_reducible repeat (first | refine blk_drewN ?_ _ | refine blk_drew ?_ | refine blk_alloc ?_ _)); exact BK210.out) hb); have n1_ := Aside0.mk (below_step (by repeat (first | (with_reducible first | exact HB.out | apply below_alloc | apply pw_below_drewN | apply below_drew1 | refine below_set ?_ GE210.out) | exact HB.out)) hb); clear BK210; clear HB; have BK210 := n0_; have HB := n1_; clear n0_ n1_; (try clear hb); (try clear hb2); (try clear hk); (try clear hi)))
          (try simp only [Act.put, List.setIfInBounds_toArray, List.set_cons_zero, List.set_cons_succ])
          have H := HS17.out
          clear HS17
          by_cases c20 : t209 = true
          · subst c20
            have H1 : (some (t211 == 0)) = some r := by rw [if_pos rfl] at H; exact H
            clear H
            have H := H1
            clear H1
            obtain rfl := Option.some.inj H
            go_wp2
            go_ret
            exact ⟨by first | rfl | (simp [errW_none, errW_some] <;> rfl) | (simp [*, errW_none, errW_some] <;> rfl), by repeat (first | (with_reducible first | exact HB.out | apply below_alloc | apply pw_below_drewN | apply below_drew1 | refine below_set ?_ GE210.out) | exact HB.out)⟩
          · replace c20 := Bool.eq_false_iff.mpr c20
            subst c20
            have H1 : (some false) = some r := by rw [if_neg (show ¬ (false = true) by decide)] at H; exact H
            clear H
            have H := H1
            clear H1
            obtain rfl := Option.some.inj H
            go_wp2
            go_ret
            exact ⟨by first | rfl | (simp [errW_none, errW_some] <;> rfl) | (simp [*, errW_none, errW_some] <;> rfl), by repeat (first | (with_reducible first | exact HB.out | apply below_alloc | apply pw_below_drewN | apply below_drew1 | refine below_set ?_ GE210.out) | exact HB.out)⟩
        · rw [if_neg c16] at H
          have c16b0 : decide (a4 ≤ a0) = false := decide_eq_false c16
          clear c16
          replace H := Option.bind_eq_some_iff.mp H
          obtain ⟨⟨t212, t213, t214⟩, A210, H⟩ := H
          replace H : ((pacer_Take.f t212 t213 t214 (IntKind.u64.wrap (a4))).bind fun bt215 => ((pacer_Fill.f (IntKind.u64.wrap (a2)) (IntKind.u64.wrap (a0)) (Int.tmod (IntKind.u64.wrap (a1)) 1000) (IntKind.u64.wrap ((IntKind.u64.wrap ((IntKind.u64.wrap (a2)) + t211)) - 1)) (IntKind.u64.wrap (a3)) (IntKind.u64.wrap (a5))).bind fun bt220 => ((pacer_Take.f bt220.1 bt220.2.1 bt220.2.2 (IntKind.u64.wrap (a4))).bind fun bt223 => (if t209 = true then (if t211 > 0 then (if bt215.2.2.2 = true then (some (!bt223.2.2.2)) else (some false)) else (some false)) else (some false))))) = some r := H
          have A21 := Aside0.mk A210
          clear A210
          replace H := Option.bind_eq_some_iff.mp H
          obtain ⟨⟨t215, t216, t217, t218⟩, A220, H⟩ := H
          replace H : ((pacer_Fill.f (IntKind.u64.wrap (a2)) (IntKind.u64.wrap (a0)) (Int.tmod (IntKind.u64.wrap (a1)) 1000) (IntKind.u64.wrap ((IntKind.u64.wrap ((IntKind.u64.wrap (a2)) + t211)) - 1)) (IntKind.u64.wrap (a3)) (IntKind.u64.wrap (a5))).bind fun bt220 => ((pacer_Take.f bt220.1 bt220.2.1 bt220.2.2 (IntKind.u64.wrap (a4))).bind fun bt223 => (if t209 = true then (if t211 > 0 then (if t218 = true then (some (!bt223.2.2.2)) else (some false)) else (some false)) else (some false)))) = some r := H
          have A22 := Aside0.mk A220
          clear A220
          replace H := Option.bind_eq_some_iff.mp H
          obtain ⟨⟨t220, t221, t222⟩, A230, H⟩ := H
          replace H : ((pacer_Take.f t220 t221 t222 (IntKind.u64.wrap (a4))).bind fun bt223 => (if t209 = true then (if t211 > 0 then (if t218 = true then (some (!bt223.2.2.2)) else (some false)) else (some false)) else (some false))) = some r := H
          have A23 := Aside0.mk A230
          clear A230
          replace H := Option.bind_eq_some_iff.mp H
          obtain ⟨⟨t223, t224, t225, t226⟩, A240, H⟩ := H
          replace H : (if t209 = true then (if t211 > 0 then (if t218 = true then (some (!t226)) else (some false)) else (some false)) else (some false)) = some r := H
          have A24 := Aside0.mk A240
          clear A240
          have HS25 := Aside0.mk H
          clear H
          have hcz26_0 : wc.cell? ⟨gb210, 0, none⟩ = some (.int .u64 (IntKind.u64.wrap (a2))) := (blk_cell BK210.out 0).trans rfl
          have hcz26_1 : wc.cell? ⟨gb210, 1, none⟩ = some (.int .u64 (IntKind.u64.wrap (a0))) := (blk_cell BK210.out 1).trans rfl
          have hcz26_2 : wc.cell? ⟨gb210, 2, none⟩ = some (.int .u64 (Int.tmod (IntKind.u64.wrap (a1)) 1000)) := (blk_cell BK210.out 2).trans rfl
          have hfz26_0 := blk_frozen BK210.out 0
          have hfz26_1 := blk_frozen BK210.out 1
          have hfz26_2 := blk_frozen BK210.out 2
          go_upto_region 10 with (first | ((with_reducible refine gate_callee (f := 15) rfl ?_); refine goesL_ (some 47) rfl rfl Try.func15 (by kernel_rfl) rfl #[.agg #[.int .u64 (IntKind.u64.wrap (a2)), .int .u64 (IntKind.u64.wrap (a0)), .int .u64 (Int.tmod (IntKind.u64.wrap (a1)) 1000)], .int .u64 (IntKind.u64.wrap (a4)), .int .u64 (IntKind.u64.wrap (a3))] rfl (by (try simp only [List.map_toArray, List.map_cons, List.map_nil]); first | done | rfl | (simp only [List.length_drop, List.length_take]; rfl)) ?_; (with_reducible refine (pacer_Wait.calls (IntKind.u64.wrap (a2)) (IntKind.u64.wrap (a0)) (Int.tmod (IntKind.u64.wrap (a1)) 1000) (IntKind.u64.wrap (a4)) (IntKind.u64.wrap (a3)) t211 _ A15.out).mono ?_); rintro e w27 ⟨rfl, hb⟩; refine ⟨_, rfl, ?_⟩; have n0_ := Aside0.mk (blk_below (g := gb210) (o := .cells #[.int .u64 (IntKind.u64.wrap (a2)), .int .u64 (IntKind.u64.wrap (a0)), .int .u64 (Int.tmod (IntKind.u64.wrap (a1)) 1000)] 24 (0, 0)) (by (with_reducible repeat (first | refine blk_drewN ?_ _ | refine blk_drew ?_ | refine blk_alloc ?_ _)); exact BK210.out) hb); have n1_ := Aside0.mk (below_step (by repeat (first | (with_reducible first | exact HB.out | apply below_alloc | apply pw_below_drewN | apply below_drew1 | refine below_set ?_ GE210.out) | exact HB.out)) hb); clear BK210; clear HB; have BK210 := n0_; have HB := n1_; clear n0_ n1_; (try clear hb); (try clear hb2); (try clear hk); (try clear hi); have hcz28_0 : w27.cell? ⟨gb210, 0, none⟩ = some (.int .u64 (IntKind.u64.wrap (a2))) := (blk_cell BK210.out 0).trans rfl; have hcz28_1 : w27.cell? ⟨gb210, 1, none⟩ = some (.int .u64 (IntKind.u64.wrap (a0))) := (blk_cell BK210.out 1).trans rfl; have hcz28_2 : w27.cell? ⟨gb210, 2, none⟩ = some (.int .u64 (Int.tmod (IntKind.u64.wrap (a1)) 1000)) := (blk_cell BK210.out 2).trans rfl; have hfz28_0 := blk_frozen BK210.out 0; have hfz28_1 := blk_frozen BK210.out 1; have hfz28_2 := blk_frozen BK210.out 2) | ((with_reducible refine gate_callee (f := 13) rfl ?_); refine goesL_ (some 66) rfl rfl Try.func13 (by kernel_rfl) rfl #[.agg #[.int .u64 (IntKind.u64.wrap (a2)), .int .u64 (IntKind.u64.wrap (a0)), .int .u64 (Int.tmod (IntKind.u64.wrap (a1)) 1000)], .int .u64 (IntKind.u64.wrap ((IntKind.u64.wrap (a2)) + t211)), .int .u64 (IntKind.u64.wrap (a3)), .int .u64 (IntKind.u64.wrap (a5))] rfl (by (try simp only [List.map_toArray, List.map_cons, List.map_nil]); first | done | rfl | (simp only [List.length_drop, List.length_take]; rfl)) ?_; (with_reducible refine (pacer_Fill.calls (IntKind.u64.wrap (a2)) (IntKind.u64.wrap (a0)) (Int.tmod (IntKind.u64.wrap (a1)) 1000) (IntKind.u64.wrap ((IntKind.u64.wrap (a2)) + t211)) (IntKind.u64.wrap (a3)) (IntKind.u64.wrap (a5)) t212 t213 t214 _ A21.out).mono ?_); rintro e w29 ⟨rfl, hb⟩; refine ⟨_, rfl, ?_⟩; have n0_ := Aside0.mk (blk_below (g := gb210) (o := .cells #[.int .u64 (IntKind.u64.wrap (a2)), .int .u64 (IntKind.u64.wrap (a0)), .int .u64 (Int.tmod (IntKind.u64.wrap (a1)) 1000)] 24 (0, 0)) (by (with_reducible repeat (first | refine blk_drewN ?_ _ | refine blk_drew ?_ | refine blk_alloc ?_ _)); exact BK210.out) hb); have n1_ := Aside0.mk (below_step (by repeat (first | (with_reducible first | exact HB.out | apply below_alloc | apply pw_below_drewN | apply below_drew1 | refine below_set ?_ GE210.out) | exact HB.out)) hb); clear BK210; clear HB; have BK210 := n0_; have HB := n1_; clear n0_ n1_; (try clear hb); (try clear hb2); (try clear hk); (try clear hi)) | ((with_reducible refine gate_callee (f := 9) rfl ?_); refine goesL_ (some 69) rfl rfl Try.func9 (by kernel_rfl) rfl #[.agg #[.int .u64 t212, .int .u64 t213, .int .u64 t214], .int .u64 (IntKind.u64.wrap (a4))] rfl (by (try simp only [List.map_toArray, List.map_cons, List.map_nil]); first | done | rfl | (simp only [List.length_drop, List.length_take]; rfl)) ?_; (with_reducible refine (pacer_Take.calls t212 t213 t214 (IntKind.u64.wrap (a4)) t215 t216 t217 t218 _ A22.out).mono ?_); rintro e w30 ⟨rfl, hb⟩; refine ⟨_, rfl, ?_⟩; have n0_ := Aside0.mk (blk_below (g := gb210) (o := .cells #[.int .u64 (IntKind.u64.wrap (a2)), .int .u64 (IntKind.u64.wrap (a0)), .int .u64 (Int.tmod (IntKind.u64.wrap (a1)) 1000)] 24 (0, 0)) (by (with_reducible repeat (first | refine blk_drewN ?_ _ | refine blk_drew ?_ | refine blk_alloc ?_ _)); exact BK210.out) hb); have n1_ := Aside0.mk (below_step (by repeat (first | (with_reducible first | exact HB.out | apply below_alloc | apply pw_below_drewN | apply below_drew1 | refine below_set ?_ GE210.out) | exact HB.out)) hb); clear BK210; clear HB; have BK210 := n0_; have HB := n1_; clear n0_ n1_; (try clear hb); (try clear hb2); (try clear hk); (try clear hi)) | ((with_reducible refine gate_dst (N := 16) rfl ?_); refine box_event ?hg (N := 16) ?hd (cs := #[.int .u64 0, .int .u64 0, .int .u64 0]) (t := 24) ?hr ?_; (case hd => rfl); (case hg => rfl); (case hr => first | (go_simp; done) | (go_simp; rfl)); intro gb219 hg w31 hbox hb; have n0_ := Aside0.mk (blk_below (g := gb210) (o := .cells #[.int .u64 (IntKind.u64.wrap (a2)), .int .u64 (IntKind.u64.wrap (a0)), .int .u64 (Int.tmod (IntKind.u64.wrap (a1)) 1000)] 24 (0, 0)) (by (with_reducible repeat (first | refine blk_drewN ?_ _ | refine blk_drew ?_ | refine blk_alloc ?_ _)); exact BK210.out) hb); have n1_ := Aside0.mk (below_step (by repeat (first | (with_reducible first | exact HB.out | apply below_alloc | apply pw_below_drewN | apply below_drew1 | refine below_set ?_ GE210.out) | exact HB.out)) hb); have n2_ := Aside0.mk (hbox); have n3_ := Aside0.mk ((by rw [hg]; exact (below_size (by repeat (first | (with_reducible first | exact HB.out | apply below_alloc | apply pw_below_drewN | apply below_drew1 | refine below_set ?_ GE210.out) | exact HB.out))) : w.heap.size ≤ gb219)); have n4_ := Aside0.mk ((by rw [hg]; exact (below_size (by repeat (first | (with_reducible first | exact HB.out | apply below_alloc | apply pw_below_drewN | apply below_drew1 | refine below_set ?_ GE210.out) | exact HB.out))) : w.heap.size ≤ gb219)); have n5_ := Aside0.mk ((by rw [hg]; exact Nat.ne_of_lt (blk_lt (g := gb210) (o := .cells #[.int .u64 (IntKind.u64.wrap (a2)), .int .u64 (IntKind.u64.wrap (a0)), .int .u64 (Int.tmod (IntKind.u64.wrap (a1)) 1000)] 24 (0, 0)) (by (with_reducible repeat (first | refine blk_drewN ?_ _ | refine blk_drew ?_ | refine blk_alloc ?_ _)); exact BK210.out)) : gb210 ≠ gb219)); have n6_ := Aside0.mk ((by rw [hg]; exact Nat.ne_of_gt (blk_lt (g := gb210) (o := .cells #[.int .u64 (IntKind.u64.wrap (a2)), .int .u64 (IntKind.u64.wrap (a0)), .int .u64 (Int.tmod (IntKind.u64.wrap (a1)) 1000)] 24 (0, 0)) (by (with_reducible repeat (first | refine blk_drewN ?_ _ | refine blk_drew ?_ | refine blk_alloc ?_ _)); exact BK210.out)) : gb219 ≠ gb210)); clear BK210; clear HB; have BK210 := n0_; have HB := n1_; have BK219 := n2_; have GW219 := n3_; have GE219 := n4_; have NB210_219 := n5_; have NB219_210 := n6_; clear n0_ n1_ n2_ n3_ n4_ n5_ n6_; clear hb hbox hg; have hnb32 := NB219_210.out; have hnc32 := NB210_219.out; have hcz33_0 : w31.cell? ⟨gb219, 0, none⟩ = some (.int .u64 0) := (blk_cell BK219.out 0).trans rfl; have hcz33_1 : w31.cell? ⟨gb219, 1, none⟩ = some (.int .u64 0) := (blk_cell BK219.out 1).trans rfl; have hcz33_2 : w31.cell? ⟨gb219, 2, none⟩ = some (.int .u64 0) := (blk_cell BK219.out 2).trans rfl; have hfz33_0 := blk_frozen BK219.out 0; have hfz33_1 := blk_frozen BK219.out 1; have hfz33_2 := blk_frozen BK219.out 2; have hcz34_0 : w31.cell? ⟨gb210, 0, none⟩ = some (.int .u64 (IntKind.u64.wrap (a2))) := (blk_cell BK210.out 0).trans rfl; have hcz34_1 : w31.cell? ⟨gb210, 1, none⟩ = some (.int .u64 (IntKind.u64.wrap (a0))) := (blk_cell BK210.out 1).trans rfl; have hcz34_2 : w31.cell? ⟨gb210, 2, none⟩ = some (.int .u64 (Int.tmod (IntKind.u64.wrap (a1)) 1000)) := (blk_cell BK210.out 2).trans rfl; have hfz34_0 := blk_frozen BK210.out 0; have hfz34_1 := blk_frozen BK210.out 1; have hfz34_2 := blk_frozen BK210.out 2) | ((with_reducible refine gate_callee (f := 13) rfl ?_); refine goesL_ (some 83) rfl rfl Try.func13 (by kernel_rfl) rfl #[.agg #[.int .u64 (IntKind.u64.wrap (a2)), .int .u64 (IntKind.u64.wrap (a0)), .int .u64 (Int.tmod (IntKind.u64.wrap (a1)) 1000)], .int .u64 (IntKind.u64.wrap ((IntKind.u64.wrap ((IntKind.u64.wrap (a2)) + t211)) - 1)), .int .u64 (IntKind.u64.wrap (a3)), .int .u64 (IntKind.u64.wrap (a5))] rfl (by (try simp only [List.map_toArray, List.map_cons, List.map_nil]); first | done | rfl | (simp only [List.length_drop, List.length_take]; rfl)) ?_; (with_reducible refine (pacer_Fill.calls (IntKind.u64.wrap (a2)) (IntKind.u64.wrap (a0)) (Int.tmod (IntKind.u64.wrap (a1)) 1000) (IntKind.u64.wrap ((IntKind.u64.wrap ((IntKind.u64.wrap (a2)) + t211)) - 1)) (IntKind.u64.wrap (a3)) (IntKind.u64.wrap (a5)) t220 t221 t222 _ A23.out).mono ?_); rintro e w35 ⟨rfl, hb⟩; refine ⟨_, rfl, ?_⟩; have n0_ := Aside0.mk (blk_below (g := gb210) (o := .cells #[.int .u64 (IntKind.u64.wrap (a2)), .int .u64 (IntKind.u64.wrap (a0)), .int .u64 (Int.tmod (IntKind.u64.wrap (a1)) 1000)] 24 (0, 0)) (by (with_reducible repeat (first | refine blk_drewN ?_ _ | refine blk_drew ?_ | refine blk_alloc ?_ _)); refine blk_far ?_ NB210_219.out _; (with_reducible repeat (first | refine blk_drewN ?_ _ | refine blk_drew ?_ | refine blk_alloc ?_ _)); refine blk_far ?_ NB210_219.out _; (with_reducible repeat (first | refine blk_drewN ?_ _ | refine blk_drew ?_ | refine blk_alloc ?_ _)); refine blk_far ?_ NB210_219.out _; (with_reducible repeat (first | refine blk_drewN ?_ _ | refine blk_drew ?_ | refine blk_alloc ?_ _)); exact BK210.out) hb); have n1_ := Aside0.mk (blk_below (g := gb219) (o := .cells #[.int .u64 t215, .int .u64 t216, .int .u64 t217] 24 (0, 0)) (by (with_reducible repeat (first | refine blk_drewN ?_ _ | refine blk_drew ?_ | refine blk_alloc ?_ _)); refine blk_put (cs := #[.int .u64 t215, .int .u64 t216, .int .u64 0]) ?_ 2 _ rfl; (with_reducible repeat (first | refine blk_drewN ?_ _ | refine blk_drew ?_ | refine blk_alloc ?_ _)); refine blk_put (cs := #[.int .u64 t215, .int .u64 0, .int .u64 0]) ?_ 1 _ rfl; (with_reducible repeat (first | refine blk_drewN ?_ _ | refine blk_drew ?_ | refine blk_alloc ?_ _)); refine blk_put (cs := #[.int .u64 0, .int .u64 0, .int .u64 0]) ?_ 0 _ rfl; (with_reducible repeat (first | refine blk_drewN ?_ _ | refine blk_drew ?_ | refine blk_alloc ?_ _)); exact BK219.out) hb); have n2_ := Aside0.mk (below_step (by repeat (first | (with_reducible first | exact HB.out | apply below_alloc | apply pw_below_drewN | apply below_drew1 | refine below_set ?_ GE210.out | refine below_set ?_ GE219.out) | exact HB.out)) hb); clear BK210; clear BK219; clear HB; have BK210 := n0_; have BK219 := n1_; have HB := n2_; clear n0_ n1_ n2_; (try clear hb); (try clear hb2); (try clear hk); (try clear hi)) | ((with_reducible refine gate_callee (f := 9) rfl ?_); refine goesL_ (some 86) rfl rfl Try.func9 (by kernel_rfl) rfl #[.agg #[.int .u64 t220, .int .u64 t221, .int .u64 t222], .int .u64 (IntKind.u64.wrap (a4))] rfl (by (try simp only [List.map_toArray, List.map_cons, List.map_nil]); first | done | rfl | (simp only [List.length_drop, List.length_take]; rfl)) ?_; (with_reducible refine (pacer_Take.calls t220 t221 t222 (IntKind.u64.wrap (a4)) t223 t224 t225 t226 _ A24.out).mono ?_); rintro e w36 ⟨rfl, hb⟩; refine ⟨_, rfl, ?_⟩; have n0_ := Aside0.mk (blk_below (g := gb210) (o := .cells #[.int .u64 (IntKind.u64.wrap (a2)), .int .u64 (IntKind.u64.wrap (a0)), .int .u64 (Int.tmod (IntKind.u64.wrap (a1)) 1000)] 24 (0, 0)) (by (with_reducible repeat (first | refine blk_drewN ?_ _ | refine blk_drew ?_ | refine blk_alloc ?_ _)); exact BK210.out) hb); have n1_ := Aside0.mk (blk_below (g := gb219) (o := .cells #[.int .u64 t215, .int .u64 t216, .int .u64 t217] 24 (0, 0)) (by (with_reducible repeat (first | refine blk_drewN ?_ _ | refine blk_drew ?_ | refine blk_alloc ?_ _)); exact BK219.out) hb); have n2_ := Aside0.mk (below_step (by repeat (first | (with_reducible first | exact HB.out | apply below_alloc | apply pw_below_drewN | apply below_drew1 | refine below_set ?_ GE210.out | refine below_set ?_ GE219.out) | exact HB.out)) hb); clear BK210; clear BK219; clear HB; have BK210 := n0_; have BK219 := n1_; have HB := n2_; clear n0_ n1_ n2_; (try clear hb); (try clear hb2); (try clear hk); (try clear hi)) | ((with_reducible refine gate_dst (N := 18) rfl ?_); refine box_event ?hg (N := 18) ?hd (cs := #[.int .u64 0, .int .u64 0, .int .u64 0]) (t := 24) ?hr ?_; (case hd => rfl); (case hg => rfl); (case hr => first | (go_simp; done) | (go_simp; rfl)); intro gb227 hg w37 hbox hb; have n0_ := Aside0.mk (blk_below (g := gb210) (o := .cells #[.int .u64 (IntKind.u64.wrap (a2)), .int .u64 (IntKind.u64.wrap (a0)), .int .u64 (Int.tmod (IntKind.u64.wrap (a1)) 1000)] 24 (0, 0)) (by (with_reducible repeat (first | refine blk_drewN ?_ _ | refine blk_drew ?_ | refine blk_alloc ?_ _)); exact BK210.out) hb); have n1_ := Aside0.mk (blk_below (g := gb219) (o := .cells #[.int .u64 t215, .int .u64 t216, .int .u64 t217] 24 (0, 0)) (by (with_reducible repeat (first | refine blk_drewN ?_ _ | refine blk_drew ?_ | refine blk_alloc ?_ _)); exact BK219.out) hb); have n2_ := Aside0.mk (below_step (by repeat (first | (with_reducible first | exact HB.out | apply below_alloc | apply pw_below_drewN | apply below_drew1 | refine below_set ?_ GE210.out | refine below_set ?_ GE219.out) | exact HB.out)) hb); have n3_ := Aside0.mk (hbox); have n4_ := Aside0.mk ((by rw [hg]; exact (below_size (by repeat (first | (with_reducible first | exact HB.out | apply below_alloc | apply pw_below_drewN | apply below_drew1 | refine below_set ?_ GE210.out | refine below_set ?_ GE219.out) | exact HB.out))) : w.heap.size ≤ gb227)); have n5_ := Aside0.mk ((by rw [hg]; exact (below_size (by repeat (first | (with_reducible first | exact HB.out | apply below_alloc | apply pw_below_drewN | apply below_drew1 | refine below_set ?_ GE210.out | refine below_set ?_ GE219.out) | exact HB.out))) : w.heap.size ≤ gb227)); have n6_ := Aside0.mk ((by rw [hg]; exact Nat.ne_of_lt (blk_lt (g := gb210) (o := .cells #[.int .u64 (IntKind.u64.wrap (a2)), .int .u64 (IntKind.u64.wrap (a0)), .int .u64 (Int.tmod (IntKind.u64.wrap (a1)) 1000)] 24 (0, 0)) (by (with_reducible repeat (first | refine blk_drewN ?_ _ | refine blk_drew ?_ | refine blk_alloc ?_ _)); exact BK210.out)) : gb210 ≠ gb227)); have n7_ := Aside0.mk ((by rw [hg]; exact Nat.ne_of_gt (blk_lt (g := gb210) (o := .cells #[.int .u64 (IntKind.u64.wrap (a2)), .int .u64 (IntKind.u64.wrap (a0)), .int .u64 (Int.tmod (IntKind.u64.wrap (a1)) 1000)] 24 (0, 0)) (by (with_reducible repeat (first | refine blk_drewN ?_ _ | refine blk_drew ?_ | refine blk_alloc ?_ _)); exact BK210.out)) : gb227 ≠ gb210)); have n8_ := Aside0.mk ((by rw [hg]; exact Nat.ne_of_lt (blk_lt (g := gb219) (o := .cells #[.int .u64 t215, .int .u64 t216, .int .u64 t217] 24 (0, 0)) (by (with_reducible repeat (first | refine blk_drewN ?_ _ | refine blk_drew ?_ | refine blk_alloc ?_ _)); exact BK219.out)) : gb219 ≠ gb227)); have n9_ := Aside0.mk ((by rw [hg]; exact Nat.ne_of_gt (blk_lt (g := gb219) (o := .cells #[.int .u64 t215, .int .u64 t216, .int .u64 t217] 24 (0, 0)) (by (with_reducible repeat (first | refine blk_drewN ?_ _ | refine blk_drew ?_ | refine blk_alloc ?_ _)); exact BK219.out)) : gb227 ≠ gb219)); clear BK210; clear BK219; clear HB; have BK210 := n0_; have BK219 := n1_; have HB := n2_; have BK227 := n3_; have GW227 := n4_; have GE227 := n5_; have NB210_227 := n6_; have NB227_210 := n7_; have NB219_227 := n8_; have NB227_219 := n9_; clear n0_ n1_ n2_ n3_ n4_ n5_ n6_ n7_ n8_ n9_; clear hb hbox hg; have hnb38 := NB227_210.out; have hnc38 := NB210_227.out; have hnb39 := NB227_219.out; have hnc39 := NB219_227.out; have hcz40_0 : w37.cell? ⟨gb227, 0, none⟩ = some (.int .u64 0) := (blk_cell BK227.out 0).trans rfl; have hcz40_1 : w37.cell? ⟨gb227, 1, none⟩ = some (.int .u64 0) := (blk_cell BK227.out 1).trans rfl; have hcz40_2 : w37.cell? ⟨gb227, 2, none⟩ = some (.int .u64 0) := (blk_cell BK227.out 2).trans rfl; have hfz40_0 := blk_frozen BK227.out 0; have hfz40_1 := blk_frozen BK227.out 1; have hfz40_2 := blk_frozen BK227.out 2))
          (try simp only [Act.put, List.setIfInBounds_toArray, List.set_cons_zero, List.set_cons_succ])
          have H := HS25.out
          clear HS25
          by_cases c41 : t209 = true
          · subst c41
            have H1 : (if t211 > 0 then (if t218 = true then (some (!t226)) else (some false)) else (some false)) = some r := by rw [if_pos rfl] at H; exact H
            clear H
            have H := H1
            clear H1
            by_cases c42 : t211 > 0
            · rw [if_pos c42] at H
              have c42b0 : decide (0 < t211) = true := decide_eq_true c42
              clear c42
              by_cases c43 : t218 = true
              · subst c43
                have H1 : (some (!t226)) = some r := by rw [if_pos rfl] at H; exact H
                clear H
                have H := H1
                clear H1
                obtain rfl := Option.some.inj H
                go_wp2
                go_ret
                exact ⟨by first | rfl | (simp [errW_none, errW_some] <;> rfl) | (simp [*, errW_none, errW_some] <;> rfl), by repeat (first | (with_reducible first | exact HB.out | apply below_alloc | apply pw_below_drewN | apply below_drew1 | refine below_set ?_ GE210.out | refine below_set ?_ GE219.out | refine below_set ?_ GE227.out) | exact HB.out)⟩
              · replace c43 := Bool.eq_false_iff.mpr c43
                subst c43
                have H1 : (some false) = some r := by rw [if_neg (show ¬ (false = true) by decide)] at H; exact H
                clear H
                have H := H1
                clear H1
                obtain rfl := Option.some.inj H
                go_wp2
                go_ret
                exact ⟨by first | rfl | (simp [errW_none, errW_some] <;> rfl) | (simp [*, errW_none, errW_some] <;> rfl), by repeat (first | (with_reducible first | exact HB.out | apply below_alloc | apply pw_below_drewN | apply below_drew1 | refine below_set ?_ GE210.out | refine below_set ?_ GE219.out | refine below_set ?_ GE227.out) | exact HB.out)⟩
            · rw [if_neg c42] at H
              have c42b0 : decide (0 < t211) = false := decide_eq_false c42
              clear c42
              obtain rfl := Option.some.inj H
              go_wp2
              go_ret
              exact ⟨by first | rfl | (simp [errW_none, errW_some] <;> rfl) | (simp [*, errW_none, errW_some] <;> rfl), by repeat (first | (with_reducible first | exact HB.out | apply below_alloc | apply pw_below_drewN | apply below_drew1 | refine below_set ?_ GE210.out | refine below_set ?_ GE219.out | refine below_set ?_ GE227.out) | exact HB.out)⟩
          · replace c41 := Bool.eq_false_iff.mpr c41
            subst c41
            have H1 : (some false) = some r := by rw [if_neg (show ¬ (false = true) by decide)] at H; exact H
            clear H
            have H := H1
            clear H1
            obtain rfl := Option.some.inj H
            go_wp2
            go_ret
            exact ⟨by first | rfl | (simp [errW_none, errW_some] <;> rfl) | (simp [*, errW_none, errW_some] <;> rfl), by repeat (first | (with_reducible first | exact HB.out | apply below_alloc | apply pw_below_drewN | apply below_drew1 | refine below_set ?_ GE210.out | refine below_set ?_ GE219.out | refine below_set ?_ GE227.out) | exact HB.out)⟩

/-- THE ONE PURE STATEMENT of wigwaglaw16_PacerWaits: yours. -/
def wigwaglaw16_PacerWaits.Pure : Prop := ∀ (a0 : Int) (a1 : Int) (a2 : Int) (a3 : Int) (a4 : Int) (a5 : Int), (Lit.int .u32 a0).wf = true → (Lit.int .u16 a1).wf = true → (Lit.int .u32 a2).wf = true → (Lit.int .u32 a3).wf = true → (Lit.int .u32 a4).wf = true → (Lit.int .u32 a5).wf = true → ∃ k, wigwaglaw16_PacerWaits.f k a0 a1 a2 a3 a4 a5 = some true
theorem wigwaglaw16_PacerWaits.walk (P : wigwaglaw16_PacerWaits.Pure) (a0 : Int) (a1 : Int) (a2 : Int) (a3 : Int) (a4 : Int) (a5 : Int) (w : World) (w0 : (Lit.int .u32 a0).wf = true) (w1 : (Lit.int .u16 a1).wf = true) (w2 : (Lit.int .u32 a2).wf = true) (w3 : (Lit.int .u32 a3).wf = true) (w4 : (Lit.int .u32 a4).wf = true) (w5 : (Lit.int .u32 a5).wf = true) :
    Calls Try.prog 5 #[.int .u32 a0, .int .u16 a1, .int .u32 a2, .int .u32 a3, .int .u32 a4, .int .u32 a5] w fun e w' => e = .returned (.bool true) ∧ Below w.heap.size w w' := by
  obtain ⟨k, h⟩ := P a0 a1 a2 a3 a4 a5 w0 w1 w2 w3 w4 w5
  refine (wigwaglaw16_PacerWaits.calls k a0 a1 a2 a3 a4 a5 true w h).mono ?_
  rintro e w' ⟨rfl, hd⟩
  exact ⟨rfl, hd⟩

end Go.Proofs.Ytiekeofcfpnlkaa.P
