-- Printed for this claim by xprint.py of this session: contracts of this session's own stand in for what the print does not take
import Derived.Test.YtiekeofcfpnlkaaPx0
import Derived.Test.YtiekeofcfpnlkaaPx3
import Derived.Test.YtiekeofcfpnlkaaPx4
namespace Go.Proofs.Ytiekeofcfpnlkaa.P
open Go.RowKit Go.Proofs.YtiekeofcfpnlkaaW.PrintWords Go.Proofs.YtiekeofcfpnlkaaW.PrintLast Go.Proofs.YtiekeofcfpnlkaaW.PrintMore
attribute [local go_sem] max2_int min2_int max_two min_two max_three min_three max_four min_four   -- for this text's walks alone
set_option linter.unusedVariables false
set_option linter.unusedSimpArgs false

/-! ### wigwaglaw16_PacerFull: function 7 -/
def wigwaglaw16_PacerFull.f (a0 : Int) (a1 : Int) (a2 : Int) (a3 : Int) (a4 : Int) : Option (Bool) := (wigwaglaw16_awake.f).bind fun t153 => (if a2 = 0 then (some t153) else (if (IntKind.u64.wrap (a2)) = 0 then (none) else ((pacer_Fill.f 7 (IntKind.u64.wrap (a0)) (Int.tmod (IntKind.u64.wrap (a1)) 1000) (IntKind.u64.wrap (7 + (IntKind.u64.wrap ((IntKind.u64.wrap ((IntKind.u64.wrap (Int.tdiv (IntKind.u64.wrap ((IntKind.u64.wrap (a3)) * 1000)) (IntKind.u64.wrap (a2)))) + 1)) + (IntKind.u64.wrap (a4)))))) (IntKind.u64.wrap (a2)) (IntKind.u64.wrap (a3))).bind fun bt155 => ((pacer_Fill.f bt155.1 bt155.2.1 bt155.2.2 (IntKind.u64.wrap ((IntKind.u64.wrap (8 + (IntKind.u64.wrap ((IntKind.u64.wrap ((IntKind.u64.wrap (Int.tdiv (IntKind.u64.wrap ((IntKind.u64.wrap (a3)) * 1000)) (IntKind.u64.wrap (a2)))) + 1)) + (IntKind.u64.wrap (a4)))))) + (IntKind.u64.wrap (a4)))) (IntKind.u64.wrap (a2)) (IntKind.u64.wrap (a3))).bind fun bt159 => (if t153 = true then (if bt155.2.1 = (IntKind.u64.wrap (a3)) then (if bt155.2.2 = 0 then (if bt155.1 = (IntKind.u64.wrap (7 + (IntKind.u64.wrap ((IntKind.u64.wrap ((IntKind.u64.wrap (Int.tdiv (IntKind.u64.wrap ((IntKind.u64.wrap (a3)) * 1000)) (IntKind.u64.wrap (a2)))) + 1)) + (IntKind.u64.wrap (a4)))))) then (some (bt159.2.1 == (IntKind.u64.wrap (a3)))) else (some false)) else (some false)) else (some false)) else (some false))))))
set_option maxHeartbeats 8000000 in
set_option maxRecDepth 100000 in
theorem wigwaglaw16_PacerFull.calls (a0 : Int) (a1 : Int) (a2 : Int) (a3 : Int) (a4 : Int) (r : Bool) (w : World) (h : wigwaglaw16_PacerFull.f a0 a1 a2 a3 a4 = some r) :
    Calls Try.prog 7 #[.int .u32 a0, .int .u16 a1, .int .u32 a2, .int .u32 a3, .int .u32 a4] w fun e w' => e = .returned (.bool r) ∧ Below w.heap.size w w' := by
  have hu24 := Try.underlying24
  have HB := Aside0.mk (Below.refl w.heap.size w)
  have H : ((wigwaglaw16_awake.f).bind fun t153 => (if a2 = 0 then (some t153) else (if (IntKind.u64.wrap (a2)) = 0 then (none) else ((pacer_Fill.f 7 (IntKind.u64.wrap (a0)) (Int.tmod (IntKind.u64.wrap (a1)) 1000) (IntKind.u64.wrap (7 + (IntKind.u64.wrap ((IntKind.u64.wrap ((IntKind.u64.wrap (Int.tdiv (IntKind.u64.wrap ((IntKind.u64.wrap (a3)) * 1000)) (IntKind.u64.wrap (a2)))) + 1)) + (IntKind.u64.wrap (a4)))))) (IntKind.u64.wrap (a2)) (IntKind.u64.wrap (a3))).bind fun bt155 => ((pacer_Fill.f bt155.1 bt155.2.1 bt155.2.2 (IntKind.u64.wrap ((IntKind.u64.wrap (8 + (IntKind.u64.wrap ((IntKind.u64.wrap ((IntKind.u64.wrap (Int.tdiv (IntKind.u64.wrap ((IntKind.u64.wrap (a3)) * 1000)) (IntKind.u64.wrap (a2)))) + 1)) + (IntKind.u64.wrap (a4)))))) + (IntKind.u64.wrap (a4)))) (IntKind.u64.wrap (a2)) (IntKind.u64.wrap (a3))).bind fun bt159 => (if t153 = true then (if bt155.2.1 = (IntKind.u64.wrap (a3)) then (if bt155.2.2 = 0 then (if bt155.1 = (IntKind.u64.wrap (7 + (IntKind.u64.wrap ((IntKind.u64.wrap ((IntKind.u64.wrap (Int.tdiv (IntKind.u64.wrap ((IntKind.u64.wrap (a3)) * 1000)) (IntKind.u64.wrap (a2)))) + 1)) + (IntKind.u64.wrap (a4)))))) then (some (bt159.2.1 == (IntKind.u64.wrap (a3)))) else (some false)) else (some false)) else (some false)) else (some false))))))) = some r := h
  clear h
  replace H := Option.bind_eq_some_iff.mp H
  obtain ⟨t153, A60, H⟩ := H
  replace H : (if a2 = 0 then (some t153) else (if (IntKind.u64.wrap (a2)) = 0 then (none) else ((pacer_Fill.f 7 (IntKind.u64.wrap (a0)) (Int.tmod (IntKind.u64.wrap (a1)) 1000) (IntKind.u64.wrap (7 + (IntKind.u64.wrap ((IntKind.u64.wrap ((IntKind.u64.wrap (Int.tdiv (IntKind.u64.wrap ((IntKind.u64.wrap (a3)) * 1000)) (IntKind.u64.wrap (a2)))) + 1)) + (IntKind.u64.wrap (a4)))))) (IntKind.u64.wrap (a2)) (IntKind.u64.wrap (a3))).bind fun bt155 => ((pacer_Fill.f bt155.1 bt155.2.1 bt155.2.2 (IntKind.u64.wrap ((IntKind.u64.wrap (8 + (IntKind.u64.wrap ((IntKind.u64.wrap ((IntKind.u64.wrap (Int.tdiv (IntKind.u64.wrap ((IntKind.u64.wrap (a3)) * 1000)) (IntKind.u64.wrap (a2)))) + 1)) + (IntKind.u64.wrap (a4)))))) + (IntKind.u64.wrap (a4)))) (IntKind.u64.wrap (a2)) (IntKind.u64.wrap (a3))).bind fun bt159 => (if t153 = true then (if bt155.2.1 = (IntKind.u64.wrap (a3)) then (if bt155.2.2 = 0 then (if bt155.1 = (IntKind.u64.wrap (7 + (IntKind.u64.wrap ((IntKind.u64.wrap ((IntKind.u64.wrap (Int.tdiv (IntKind.u64.wrap ((IntKind.u64.wrap (a3)) * 1000)) (IntKind.u64.wrap (a2)))) + 1)) + (IntKind.u64.wrap (a4)))))) then (some (bt159.2.1 == (IntKind.u64.wrap (a3)))) else (some false)) else (some false)) else (some false)) else (some false)))))) = some r := H
  have A6 := Aside0.mk A60
  clear A60
  by_cases c7 : a2 = 0
  · rw [if_pos c7] at H
    have c7b0 : (a2 == 0) = true := beq_iff_eq.mpr c7
    have c7b1 : (a2 != 0) = false := bne_eq_false_iff_eq.mpr c7
    clear c7
    obtain rfl := Option.some.inj H
    go_enter Try.func7, Try.ntmps7
    go_wp2_with (first | ((with_reducible refine gate_callee (f := 8) rfl ?_); refine goesL_ (some 16) rfl rfl Try.func8 (by kernel_rfl) rfl #[] rfl (by (try simp only [List.map_toArray, List.map_cons, List.map_nil]); first | done | rfl | (simp only [List.length_drop, List.length_take]; rfl)) ?_; (with_reducible refine (wigwaglaw16_awake.calls  t153 _ A6.out).mono ?_); rintro e w8 ⟨rfl, hb⟩; refine ⟨_, rfl, ?_⟩; have n0_ := Aside0.mk (below_step (by repeat (first | (with_reducible first | exact HB.out | apply below_alloc | apply pw_below_drewN | apply below_drew1) | exact HB.out)) hb); clear HB; have HB := n0_; clear n0_; (try clear hb); (try clear hb2); (try clear hk); (try clear hi)))
    go_ret
    exact ⟨by first | rfl | (simp [errW_none, errW_some] <;> rfl) | (simp [*, errW_none, errW_some] <;> rfl), by repeat (first | (with_reducible first | exact HB.out | apply below_alloc | apply pw_below_drewN | apply below_drew1) | exact HB.out)⟩
  · rw [if_neg c7] at H
    have c7b0 : (a2 == 0) = false := beq_eq_false_iff_ne.mpr c7
    have c7b1 : (a2 != 0) = true := bne_iff_ne.mpr c7
    by_cases c9 : (IntKind.u64.wrap (a2)) = 0
    · rw [if_pos c9] at H
      exact absurd H (by simp)
    · rw [if_neg c9] at H
      have c9b0 : ((IntKind.u64.wrap (a2)) == 0) = false := beq_eq_false_iff_ne.mpr c9
      have c9b1 : ((IntKind.u64.wrap (a2)) != 0) = true := bne_iff_ne.mpr c9
      replace H := Option.bind_eq_some_iff.mp H
      obtain ⟨⟨t155, t156, t157⟩, A100, H⟩ := H
      replace H : ((pacer_Fill.f t155 t156 t157 (IntKind.u64.wrap ((IntKind.u64.wrap (8 + (IntKind.u64.wrap ((IntKind.u64.wrap ((IntKind.u64.wrap (Int.tdiv (IntKind.u64.wrap ((IntKind.u64.wrap (a3)) * 1000)) (IntKind.u64.wrap (a2)))) + 1)) + (IntKind.u64.wrap (a4)))))) + (IntKind.u64.wrap (a4)))) (IntKind.u64.wrap (a2)) (IntKind.u64.wrap (a3))).bind fun bt159 => (if t153 = true then (if t156 = (IntKind.u64.wrap (a3)) then (if t157 = 0 then (if t155 = (IntKind.u64.wrap (7 + (IntKind.u64.wrap ((IntKind.u64.wrap ((IntKind.u64.wrap (Int.tdiv (IntKind.u64.wrap ((IntKind.u64.wrap (a3)) * 1000)) (IntKind.u64.wrap (a2)))) + 1)) + (IntKind.u64.wrap (a4)))))) then (some (bt159.2.1 == (IntKind.u64.wrap (a3)))) else (some false)) else (some false)) else (some false)) else (some false))) = some r := H
      have A10 := Aside0.mk A100
      clear A100
      replace H := Option.bind_eq_some_iff.mp H
      obtain ⟨⟨t159, t160, t161⟩, A110, H⟩ := H
      replace H : (if t153 = true then (if t156 = (IntKind.u64.wrap (a3)) then (if t157 = 0 then (if t155 = (IntKind.u64.wrap (7 + (IntKind.u64.wrap ((IntKind.u64.wrap ((IntKind.u64.wrap (Int.tdiv (IntKind.u64.wrap ((IntKind.u64.wrap (a3)) * 1000)) (IntKind.u64.wrap (a2)))) + 1)) + (IntKind.u64.wrap (a4)))))) then (some (t160 == (IntKind.u64.wrap (a3)))) else (some false)) else (some false)) else (some false)) else (some false)) = some r := H
      have A11 := Aside0.mk A110
      clear A110
      have HS12 := Aside0.mk H
      clear H
      go_enter Try.func7, Try.ntmps7
      go_upto_region 8 with (first | ((with_reducible refine gate_callee (f := 8) rfl ?_); refine goesL_ (some 16) rfl rfl Try.func8 (by kernel_rfl) rfl #[] rfl (by (try simp only [List.map_toArray, List.map_cons, List.map_nil]); first | done | rfl | (simp only [List.length_drop, List.length_take]; rfl)) ?_; (with_reducible refine (wigwaglaw16_awake.calls  t153 _ A6.out).mono ?_); rintro e w13 ⟨rfl, hb⟩; refine ⟨_, rfl, ?_⟩; have n0_ := Aside0.mk (below_step (by repeat (first | (with_reducible first | exact HB.out | apply below_alloc | apply pw_below_drewN | apply below_drew1) | exact HB.out)) hb); clear HB; have HB := n0_; clear n0_; (try clear hb); (try clear hb2); (try clear hk); (try clear hi)) | ((with_reducible refine gate_dst (N := 12) rfl ?_); refine box_event ?hg (N := 12) ?hd (cs := #[.int .u64 0, .int .u64 0, .int .u64 0]) (t := 24) ?hr ?_; (case hd => rfl); (case hg => rfl); (case hr => first | (go_simp; done) | (go_simp; rfl)); intro gb154 hg w14 hbox hb; have n0_ := Aside0.mk (below_step (by repeat (first | (with_reducible first | exact HB.out | apply below_alloc | apply pw_below_drewN | apply below_drew1) | exact HB.out)) hb); have n1_ := Aside0.mk (hbox); have n2_ := Aside0.mk ((by rw [hg]; exact (below_size (by repeat (first | (with_reducible first | exact HB.out | apply below_alloc | apply pw_below_drewN | apply below_drew1) | exact HB.out))) : w.heap.size ≤ gb154)); have n3_ := Aside0.mk ((by rw [hg]; exact (below_size (by repeat (first | (with_reducible first | exact HB.out | apply below_alloc | apply pw_below_drewN | apply below_drew1) | exact HB.out))) : w.heap.size ≤ gb154)); clear HB; have HB := n0_; have BK154 := n1_; have GW154 := n2_; have GE154 := n3_; clear n0_ n1_ n2_ n3_; clear hb hbox hg; have hcz15_0 : w14.cell? ⟨gb154, 0, none⟩ = some (.int .u64 0) := (blk_cell BK154.out 0).trans rfl; have hcz15_1 : w14.cell? ⟨gb154, 1, none⟩ = some (.int .u64 0) := (blk_cell BK154.out 1).trans rfl; have hcz15_2 : w14.cell? ⟨gb154, 2, none⟩ = some (.int .u64 0) := (blk_cell BK154.out 2).trans rfl; have hfz15_0 := blk_frozen BK154.out 0; have hfz15_1 := blk_frozen BK154.out 1; have hfz15_2 := blk_frozen BK154.out 2) | ((with_reducible refine gate_callee (f := 13) rfl ?_); refine goesL_ (some 43) rfl rfl Try.func13 (by kernel_rfl) rfl #[.agg #[.int .u64 7, .int .u64 (IntKind.u64.wrap (a0)), .int .u64 (Int.tmod (IntKind.u64.wrap (a1)) 1000)], .int .u64 (IntKind.u64.wrap (7 + (IntKind.u64.wrap ((IntKind.u64.wrap ((IntKind.u64.wrap (Int.tdiv (IntKind.u64.wrap ((IntKind.u64.wrap (a3)) * 1000)) (IntKind.u64.wrap (a2)))) + 1)) + (IntKind.u64.wrap (a4)))))), .int .u64 (IntKind.u64.wrap (a2)), .int .u64 (IntKind.u64.wrap (a3))] rfl (by (try simp only [List.map_toArray, List.map_cons, List.map_nil]); first | done | rfl | (simp only [List.length_drop, List.length_take]; rfl)) ?_; (with_reducible refine (pacer_Fill.calls 7 (IntKind.u64.wrap (a0)) (Int.tmod (IntKind.u64.wrap (a1)) 1000) (IntKind.u64.wrap (7 + (IntKind.u64.wrap ((IntKind.u64.wrap ((IntKind.u64.wrap (Int.tdiv (IntKind.u64.wrap ((IntKind.u64.wrap (a3)) * 1000)) (IntKind.u64.wrap (a2)))) + 1)) + (IntKind.u64.wrap (a4)))))) (IntKind.u64.wrap (a2)) (IntKind.u64.wrap (a3)) t155 t156 t157 _ A10.out).mono ?_); rintro e w16 ⟨rfl, hb⟩; refine ⟨_, rfl, ?_⟩; have n0_ := Aside0.mk (blk_below (g := gb154) (o := .cells #[.int .u64 7, .int .u64 (IntKind.u64.wrap (a0)), .int .u64 (Int.tmod (IntKind.u64.wrap (a1)) 1000)] 24 (0, 0)) (by (with_reducible repeat (first | refine blk_drewN ?_ _ | refine blk_drew ?_ | refine blk_alloc ?_ _)); refine blk_put (cs := #[.int .u64 7, .int .u64 (IntKind.u64.wrap (a0)), .int .u64 0]) ?_ 2 _ rfl; (with_reducible repeat (first | refine blk_drewN ?_ _ | refine blk_drew ?_ | refine blk_alloc ?_ _)); refine blk_put (cs := #[.int .u64 7, .int .u64 0, .int .u64 0]) ?_ 1 _ rfl; (with_reducible repeat (first | refine blk_drewN ?_ _ | refine blk_drew ?_ | refine blk_alloc ?_ _)); refine blk_put (cs := #[.int .u64 0, .int .u64 0, .int .u64 0]) ?_ 0 _ rfl; (with_reducible repeat (first | refine blk_drewN ?_ _ | refine blk_drew ?_ | refine blk_alloc ?_ _)); exact BK154.out) hb); have n1_ := Aside0.mk (below_step (by repeat (first | (with_reducible first | exact HB.out | apply below_alloc | apply pw_below_drewN | apply below_drew1 | refine below_set ?_ GE154.out) | exact HB.out)) hb); clear BK154; clear HB; have BK154 := n0_; have HB := n1_; clear n0_ n1_; (try clear hb); (try clear hb2); (try clear hk); (try clear hi)) | ((with_reducible refine gate_dst (N := 14) rfl ?_); refine box_event ?hg (N := 14) ?hd (cs := #[.int .u64 0, .int .u64 0, .int .u64 0]) (t := 24) ?hr ?_; (case hd => rfl); (case hg => rfl); (case hr => first | (go_simp; done) | (go_simp; rfl)); intro gb158 hg w17 hbox hb; have n0_ := Aside0.mk (blk_below (g := gb154) (o := .cells #[.int .u64 7, .int .u64 (IntKind.u64.wrap (a0)), .int .u64 (Int.tmod (IntKind.u64.wrap (a1)) 1000)] 24 (0, 0)) (by (with_reducible repeat (first | refine blk_drewN ?_ _ | refine blk_drew ?_ | refine blk_alloc ?_ _)); exact BK154.out) hb); have n1_ := Aside0.mk (below_step (by repeat (first | (with_reducible first | exact HB.out | apply below_alloc | apply pw_below_drewN | apply below_drew1 | refine below_set ?_ GE154.out) | exact HB.out)) hb); have n2_ := Aside0.mk (hbox); have n3_ := Aside0.mk ((by rw [hg]; exact (below_size (by repeat (first | (with_reducible first | exact HB.out | apply below_alloc | apply pw_below_drewN | apply below_drew1 | refine below_set ?_ GE154.out) | exact HB.out))) : w.heap.size ≤ gb158)); have n4_ := Aside0.mk ((by rw [hg]; exact (below_size (by repeat (first | (with_reducible first | exact HB.out | apply below_alloc | apply pw_below_drewN | apply below_drew1 | refine below_set ?_ GE154.out) | exact HB.out))) : w.heap.size ≤ gb158)); have n5_ := Aside0.mk ((by rw [hg]; exact Nat.ne_of_lt (blk_lt (g := gb154) (o := .cells #[.int .u64 7, .int .u64 (IntKind.u64.wrap (a0)), .int .u64 (Int.tmod (IntKind.u64.wrap (a1)) 1000)] 24 (0, 0)) (by (with_reducible repeat (first | refine blk_drewN ?_ _ | refine blk_drew ?_ | refine blk_alloc ?_ _)); exact BK154.out)) : gb154 ≠ gb158)); have n6_ := Aside0.mk ((by rw [hg]; exact Nat.ne_of_gt (blk_lt (g := gb154) (o := .cells #[.int .u64 7, .int .u64 (IntKind.u64.wrap (a0)), .int .u64 (Int.tmod (IntKind.u64.wrap (a1)) 1000)] 24 (0, 0)) (by (with_reducible repeat (first | refine blk_drewN ?_ _ | refine blk_drew ?_ | refine blk_alloc ?_ _)); exact BK154.out)) : gb158 ≠ gb154)); clear BK154; clear HB; have BK154 := n0_; have HB := n1_; have BK158 := n2_; have GW158 := n3_; have GE158 := n4_; have NB154_158 := n5_; have NB158_154 := n6_; clear n0_ n1_ n2_ n3_ n4_ n5_ n6_; clear hb hbox hg; have hnb18 := NB158_154.out; have hnc18 := NB154_158.out; have hcz19_0 : w17.cell? ⟨gb158, 0, none⟩ = some (.int .u64 0) := (blk_cell BK158.out 0).trans rfl; have hcz19_1 : w17.cell? ⟨gb158, 1, none⟩ = some (.int .u64 0) := (blk_cell BK158.out 1).trans rfl; have hcz19_2 : w17.cell? ⟨gb158, 2, none⟩ = some (.int .u64 0) := (blk_cell BK158.out 2).trans rfl; have hfz19_0 := blk_frozen BK158.out 0; have hfz19_1 := blk_frozen BK158.out 1; have hfz19_2 := blk_frozen BK158.out 2) | ((with_reducible refine gate_callee (f := 13) rfl ?_); refine goesL_ (some 54) rfl rfl Try.func13 (by kernel_rfl) rfl #[.agg #[.int .u64 t155, .int .u64 t156, .int .u64 t157], .int .u64 (IntKind.u64.wrap ((IntKind.u64.wrap (8 + (IntKind.u64.wrap ((IntKind.u64.wrap ((IntKind.u64.wrap (Int.tdiv (IntKind.u64.wrap ((IntKind.u64.wrap (a3)) * 1000)) (IntKind.u64.wrap (a2)))) + 1)) + (IntKind.u64.wrap (a4)))))) + (IntKind.u64.wrap (a4)))), .int .u64 (IntKind.u64.wrap (a2)), .int .u64 (IntKind.u64.wrap (a3))] rfl (by (try simp only [List.map_toArray, List.map_cons, List.map_nil]); first | done | rfl | (simp only [List.length_drop, List.length_take]; rfl)) ?_; (with_reducible refine (pacer_Fill.calls t155 t156 t157 (IntKind.u64.wrap ((IntKind.u64.wrap (8 + (IntKind.u64.wrap ((IntKind.u64.wrap ((IntKind.u64.wrap (Int.tdiv (IntKind.u64.wrap ((IntKind.u64.wrap (a3)) * 1000)) (IntKind.u64.wrap (a2)))) + 1)) + (IntKind.u64.wrap (a4)))))) + (IntKind.u64.wrap (a4)))) (IntKind.u64.wrap (a2)) (IntKind.u64.wrap (a3)) t159 t160 t161 _ A11.out).mono ?_); rintro e w20 ⟨rfl, hb⟩; refine ⟨_, rfl, ?_⟩; have n0_ := Aside0.mk (blk_below (g := gb154) (o := .cells #[.int .u64 7, .int .u64 (IntKind.u64.wrap (a0)), .int .u64 (Int.tmod (IntKind.u64.wrap (a1)) 1000)] 24 (0, 0)) (by (with_reducible repeat (first | refine blk_drewN ?_ _ | refine blk_drew ?_ | refine blk_alloc ?_ _)); refine blk_far ?_ NB154_158.out _; (with_reducible repeat (first | refine blk_drewN ?_ _ | refine blk_drew ?_ | refine blk_alloc ?_ _)); refine blk_far ?_ NB154_158.out _; (with_reducible repeat (first | refine blk_drewN ?_ _ | refine blk_drew ?_ | refine blk_alloc ?_ _)); refine blk_far ?_ NB154_158.out _; (with_reducible repeat (first | refine blk_drewN ?_ _ | refine blk_drew ?_ | refine blk_alloc ?_ _)); exact BK154.out) hb); have n1_ := Aside0.mk (blk_below (g := gb158) (o := .cells #[.int .u64 t155, .int .u64 t156, .int .u64 t157] 24 (0, 0)) (by (with_reducible repeat (first | refine blk_drewN ?_ _ | refine blk_drew ?_ | refine blk_alloc ?_ _)); refine blk_put (cs := #[.int .u64 t155, .int .u64 t156, .int .u64 0]) ?_ 2 _ rfl; (with_reducible repeat (first | refine blk_drewN ?_ _ | refine blk_drew ?_ | refine blk_alloc ?_ _)); refine blk_put (cs := #[.int .u64 t155, .int .u64 0, .int .u64 0]) ?_ 1 _ rfl; (with_reducible repeat (first | refine blk_drewN ?_ _ | refine blk_drew ?_ | refine blk_alloc ?_ _)); refine blk_put (cs := #[.int .u64 0, .int .u64 0, .int .u64 0]) ?_ 0 _ rfl; (with_reducible repeat (first | refine blk_drewN ?_ _ | refine blk_drew ?_ | refine blk_alloc ?_ _)); exact BK158.out) hb); have n2_ := Aside0.mk (below_step (by repeat (first | (with_reducible first | exact HB.out | apply below_alloc | apply pw_below_drewN | apply below_drew1 | refine below_set ?_ GE154.out | refine below_set ?_ GE158.out) | exact HB.out)) hb); clear BK154; clear BK158; clear HB; have BK154 := n0_; have BK158 := n1_; have HB := n2_; clear n0_ n1_ n2_; (try clear hb); (try clear hb2); (try clear hk); (try clear hi)) | ((with_reducible refine gate_dst (N := 15) rfl ?_); refine box_event ?hg (N := 15) ?hd (cs := #[.int .u64 0, .int .u64 0, .int .u64 0]) (t := 24) ?hr ?_; (case hd => rfl); (case hg => rfl); (case hr => first | (go_simp; done) | (go_simp; rfl)); intro gb162 hg w21 hbox hb; have n0_ := Aside0.mk (blk_below (g := gb154) (o := .cells #[.int .u64 7, .int .u64 (IntKind.u64.wrap (a0)), .int .u64 (Int.tmod (IntKind.u64.wrap (a1)) 1000)] 24 (0, 0)) (by (with_reducible repeat (first | refine blk_drewN ?_ _ | refine blk_drew ?_ | refine blk_alloc ?_ _)); exact BK154.out) hb); have n1_ := Aside0.mk (blk_below (g := gb158) (o := .cells #[.int .u64 t155, .int .u64 t156, .int .u64 t157] 24 (0, 0)) (by (with_reducible repeat (first | refine blk_drewN ?_ _ | refine blk_drew ?_ | refine blk_alloc ?_ _)); exact BK158.out) hb); have n2_ := Aside0.mk (below_step (by repeat (first | (with_reducible first | exact HB.out | apply below_alloc | apply pw_below_drewN | apply below_drew1 | refine below_set ?_ GE154.out | refine below_set ?_ GE158.out) | exact HB.out)) hb); have n3_ := Aside0.mk (hbox); have n4_ := Aside0.mk ((by rw [hg]; exact (below_size (by repeat (first | (with_reducible first | exact HB.out | apply below_alloc | apply pw_below_drewN | apply below_drew1 | refine below_set ?_ GE154.out | refine below_set ?_ GE158.out) | exact HB.out))) : w.heap.size ≤ gb162)); have n5_ := Aside0.mk ((by rw [hg]; exact (below_size (by repeat (first | (with_reducible first | exact HB.out | apply below_alloc | apply pw_below_drewN | apply below_drew1 | refine below_set ?_ GE154.out | refine below_set ?_ GE158.out) | exact HB.out))) : w.heap.size ≤ gb162)); have n6_ := Aside0.mk ((by rw [hg]; exact Nat.ne_of_lt (blk_lt (g := gb154) (o := .cells #[.int .u64 7, .int .u64 (IntKind.u64.wrap (a0)), .int .u64 (Int.tmod (IntKind.u64.wrap (a1)) 1000)] 24 (0, 0)) (by (with_reducible repeat (first | refine blk_drewN ?_ _ | refine blk_drew ?_ | refine blk_alloc ?_ _)); exact BK154.out)) : gb154 ≠ gb162)); have n7_ := Aside0.mk ((by rw [hg]; exact Nat.ne_of_gt (blk_lt (g := gb154) (o := .cells #[.int .u64 7, .int .u64 (IntKind.u64.wrap (a0)), .int .u64 (Int.tmod (IntKind.u64.wrap (a1)) 1000)] 24 (0, 0)) (by (with_reducible repeat (first | refine blk_drewN ?_ _ | refine blk_drew ?_ | refine blk_alloc ?_ _)); exact BK154.out)) : gb162 ≠ gb154)); have n8_ := Aside0.mk ((by rw [hg]; exact Nat.ne_of_lt (blk_lt (g := gb158) (o := .cells #[.int .u64 t155, .int .u64 t156, .int .u64 t157] 24 (0, 0)) (by (with_reducible repeat (first | refine blk_drewN ?_ _ | refine blk_drew ?_ | refine blk_alloc ?_ _)); exact BK158.out)) : gb158 ≠ gb162)); have n9_ := Aside0.mk ((by rw [hg]; exact Nat.ne_of_gt (blk_lt (g := gb158) (o := .cells #[.int .u64 t155, .int .u64 t156, .int .u64 t157] 24 (0, 0)) (by (with_reducible repeat (first | refine blk_drewN ?_ _ | refine blk_drew ?_ | refine blk_alloc ?_ _)); exact BK158.out)) : gb162 ≠ gb158)); clear BK154; clear BK158; clear HB; have BK154 := n0_; have BK158 := n1_; have HB := n2_; have BK162 := n3_; have GW162 := n4_; have GE162 := n5_; have NB154_162 := n6_; have NB162_154 := n7_; have NB158_162 := n8_; have NB162_158 := n9_; clear n0_ n1_ n2_ n3_ n4_ n5_ n6_ n7_ n8_ n9_; clear hb hbox hg; have hnb22 := NB162_154.out; have hnc22 := NB154_162.out; have hnb23 := NB162_158.out; have hnc23 := NB158_162.out; have hcz24_0 : w21.cell? ⟨gb162, 0, none⟩ = some (.int .u64 0) := (blk_cell BK162.out 0).trans rfl; have hcz24_1 : w21.cell? ⟨gb162, 1, none⟩ = some (.int .u64 0) := (blk_cell BK162.out 1).trans rfl; have hcz24_2 : w21.cell? ⟨gb162, 2, none⟩ = some (.int .u64 0) := (blk_cell BK162.out 2).trans rfl; have hfz24_0 := blk_frozen BK162.out 0; have hfz24_1 := blk_frozen BK162.out 1; have hfz24_2 := blk_frozen BK162.out 2))
      (try simp only [Act.put, List.setIfInBounds_toArray, List.set_cons_zero, List.set_cons_succ])
      have H := HS12.out
      clear HS12
      by_cases c25 : t153 = true
      · subst c25
        have H1 : (if t156 = (IntKind.u64.wrap (a3)) then (if t157 = 0 then (if t155 = (IntKind.u64.wrap (7 + (IntKind.u64.wrap ((IntKind.u64.wrap ((IntKind.u64.wrap (Int.tdiv (IntKind.u64.wrap ((IntKind.u64.wrap (a3)) * 1000)) (IntKind.u64.wrap (a2)))) + 1)) + (IntKind.u64.wrap (a4)))))) then (some (t160 == (IntKind.u64.wrap (a3)))) else (some false)) else (some false)) else (some false)) = some r := by rw [if_pos rfl] at H; exact H
        clear H
        have H := H1
        clear H1
        by_cases c26 : t156 = (IntKind.u64.wrap (a3))
        · rw [if_pos c26] at H
          have c26b0 : (t156 == (IntKind.u64.wrap (a3))) = true := beq_iff_eq.mpr c26
          have c26b1 : (t156 != (IntKind.u64.wrap (a3))) = false := bne_eq_false_iff_eq.mpr c26
          clear c26
          by_cases c27 : t157 = 0
          · rw [if_pos c27] at H
            have c27b0 : (t157 == 0) = true := beq_iff_eq.mpr c27
            have c27b1 : (t157 != 0) = false := bne_eq_false_iff_eq.mpr c27
            clear c27
            by_cases c28 : t155 = (IntKind.u64.wrap (7 + (IntKind.u64.wrap ((IntKind.u64.wrap ((IntKind.u64.wrap (Int.tdiv (IntKind.u64.wrap ((IntKind.u64.wrap (a3)) * 1000)) (IntKind.u64.wrap (a2)))) + 1)) + (IntKind.u64.wrap (a4))))))
            · rw [if_pos c28] at H
              have c28b0 : (t155 == (IntKind.u64.wrap (7 + (IntKind.u64.wrap ((IntKind.u64.wrap ((IntKind.u64.wrap (Int.tdiv (IntKind.u64.wrap ((IntKind.u64.wrap (a3)) * 1000)) (IntKind.u64.wrap (a2)))) + 1)) + (IntKind.u64.wrap (a4))))))) = true := beq_iff_eq.mpr c28
              have c28b1 : (t155 != (IntKind.u64.wrap (7 + (IntKind.u64.wrap ((IntKind.u64.wrap ((IntKind.u64.wrap (Int.tdiv (IntKind.u64.wrap ((IntKind.u64.wrap (a3)) * 1000)) (IntKind.u64.wrap (a2)))) + 1)) + (IntKind.u64.wrap (a4))))))) = false := bne_eq_false_iff_eq.mpr c28
              clear c28
              obtain rfl := Option.some.inj H
              have hnb29 := NB158_154.out
              have hnc29 := NB154_158.out
              have hnb30 := NB158_162.out
              have hnc30 := NB162_158.out
              have hcz31_0 : w21.cell? ⟨gb158, 0, none⟩ = some (.int .u64 t155) := (blk_cell BK158.out 0).trans rfl
              have hcz31_1 : w21.cell? ⟨gb158, 1, none⟩ = some (.int .u64 t156) := (blk_cell BK158.out 1).trans rfl
              have hcz31_2 : w21.cell? ⟨gb158, 2, none⟩ = some (.int .u64 t157) := (blk_cell BK158.out 2).trans rfl
              have hfz31_0 := blk_frozen BK158.out 0
              have hfz31_1 := blk_frozen BK158.out 1
              have hfz31_2 := blk_frozen BK158.out 2
              have hnb32 := NB162_154.out
              have hnc32 := NB154_162.out
              have hcz33_0 : w21.cell? ⟨gb162, 0, none⟩ = some (.int .u64 0) := (blk_cell BK162.out 0).trans rfl
              have hcz33_1 : w21.cell? ⟨gb162, 1, none⟩ = some (.int .u64 0) := (blk_cell BK162.out 1).trans rfl
              have hcz33_2 : w21.cell? ⟨gb162, 2, none⟩ = some (.int .u64 0) := (blk_cell BK162.out 2).trans rfl
              have hfz33_0 := blk_frozen BK162.out 0
              have hfz33_1 := blk_frozen BK162.out 1
              have hfz33_2 := blk_frozen BK162.out 2
              go_wp2
              go_ret
              exact ⟨by first | rfl | (simp [errW_none, errW_some] <;> rfl) | (simp [*, errW_none, errW_some] <;> rfl), by repeat (first | (with_reducible first | exact HB.out | apply below_alloc | apply pw_below_drewN | apply below_drew1 | refine below_set ?_ GE154.out | refine below_set ?_ GE158.out | refine below_set ?_ GE162.out) | exact HB.out)⟩
            · rw [if_neg c28] at H
              have c28b0 : (t155 == (IntKind.u64.wrap (7 + (IntKind.u64.wrap ((IntKind.u64.wrap ((IntKind.u64.wrap (Int.tdiv (IntKind.u64.wrap ((IntKind.u64.wrap (a3)) * 1000)) (IntKind.u64.wrap (a2)))) + 1)) + (IntKind.u64.wrap (a4))))))) = false := beq_eq_false_iff_ne.mpr c28
              have c28b1 : (t155 != (IntKind.u64.wrap (7 + (IntKind.u64.wrap ((IntKind.u64.wrap ((IntKind.u64.wrap (Int.tdiv (IntKind.u64.wrap ((IntKind.u64.wrap (a3)) * 1000)) (IntKind.u64.wrap (a2)))) + 1)) + (IntKind.u64.wrap (a4))))))) = true := bne_iff_ne.mpr c28
              obtain rfl := Option.some.inj H
              have hnb34 := NB158_154.out
              have hnc34 := NB154_158.out
              have hnb35 := NB158_162.out
              have hnc35 := NB162_158.out
              have hcz36_0 : w21.cell? ⟨gb158, 0, none⟩ = some (.int .u64 t155) := (blk_cell BK158.out 0).trans rfl
              have hcz36_1 : w21.cell? ⟨gb158, 1, none⟩ = some (.int .u64 t156) := (blk_cell BK158.out 1).trans rfl
              have hcz36_2 : w21.cell? ⟨gb158, 2, none⟩ = some (.int .u64 t157) := (blk_cell BK158.out 2).trans rfl
              have hfz36_0 := blk_frozen BK158.out 0
              have hfz36_1 := blk_frozen BK158.out 1
              have hfz36_2 := blk_frozen BK158.out 2
              go_wp2
              go_ret
              exact ⟨by first | rfl | (simp [errW_none, errW_some] <;> rfl) | (simp [*, errW_none, errW_some] <;> rfl), by repeat (first | (with_reducible first | exact HB.out | apply below_alloc | apply pw_below_drewN | apply below_drew1 | refine below_set ?_ GE154.out | refine below_set ?_ GE158.out | refine below_set ?_ GE162.out) | exact HB.out)⟩
          · rw [if_neg c27] at H
            have c27b0 : (t157 == 0) = false := beq_eq_false_iff_ne.mpr c27
            have c27b1 : (t157 != 0) = true := bne_iff_ne.mpr c27
            obtain rfl := Option.some.inj H
            have hnb37 := NB158_154.out
            have hnc37 := NB154_158.out
            have hnb38 := NB158_162.out
            have hnc38 := NB162_158.out
            have hcz39_0 : w21.cell? ⟨gb158, 0, none⟩ = some (.int .u64 t155) := (blk_cell BK158.out 0).trans rfl
            have hcz39_1 : w21.cell? ⟨gb158, 1, none⟩ = some (.int .u64 t156) := (blk_cell BK158.out 1).trans rfl
            have hcz39_2 : w21.cell? ⟨gb158, 2, none⟩ = some (.int .u64 t157) := (blk_cell BK158.out 2).trans rfl
            have hfz39_0 := blk_frozen BK158.out 0
            have hfz39_1 := blk_frozen BK158.out 1
            have hfz39_2 := blk_frozen BK158.out 2
            go_wp2
            go_ret
            exact ⟨by first | rfl | (simp [errW_none, errW_some] <;> rfl) | (simp [*, errW_none, errW_some] <;> rfl), by repeat (first | (with_reducible first | exact HB.out | apply below_alloc | apply pw_below_drewN | apply below_drew1 | refine below_set ?_ GE154.out | refine below_set ?_ GE158.out | refine below_set ?_ GE162.out) | exact HB.out)⟩
        · rw [if_neg c26] at H
          have c26b0 : (t156 == (IntKind.u64.wrap (a3))) = false := beq_eq_false_iff_ne.mpr c26
          have c26b1 : (t156 != (IntKind.u64.wrap (a3))) = true := bne_iff_ne.mpr c26
          obtain rfl := Option.some.inj H
          have hnb40 := NB158_154.out
          have hnc40 := NB154_158.out
          have hnb41 := NB158_162.out
          have hnc41 := NB162_158.out
          have hcz42_0 : w21.cell? ⟨gb158, 0, none⟩ = some (.int .u64 t155) := (blk_cell BK158.out 0).trans rfl
          have hcz42_1 : w21.cell? ⟨gb158, 1, none⟩ = some (.int .u64 t156) := (blk_cell BK158.out 1).trans rfl
          have hcz42_2 : w21.cell? ⟨gb158, 2, none⟩ = some (.int .u64 t157) := (blk_cell BK158.out 2).trans rfl
          have hfz42_0 := blk_frozen BK158.out 0
          have hfz42_1 := blk_frozen BK158.out 1
          have hfz42_2 := blk_frozen BK158.out 2
          go_wp2
          go_ret
          exact ⟨by first | rfl | (simp [errW_none, errW_some] <;> rfl) | (simp [*, errW_none, errW_some] <;> rfl), by repeat (first | (with_reducible first | exact HB.out | apply below_alloc | apply pw_below_drewN | apply below_drew1 | refine below_set ?_ GE154.out | refine below_set ?_ GE158.out | refine below_set ?_ GE162.out) | exact HB.out)⟩
      · replace c25 := Bool.eq_false_iff.mpr c25
        subst c25
        have H1 : (some false) = some r := by rw [if_neg (show ¬ (false = true) by decide)] at H; exact H
        clear H
        have H := H1
        clear H1
        obtain rfl := Option.some.inj H
        go_wp2
        go_ret
        exact ⟨by first | rfl | (simp [errW_none, errW_some] <;> rfl) | (simp [*, errW_none, errW_some] <;> rfl), by repeat (first | (with_reducible first | exact HB.out | apply below_alloc | apply pw_below_drewN | apply below_drew1 | refine below_set ?_ GE154.out | refine below_set ?_ GE158.out | refine below_set ?_ GE162.out) | exact HB.out)⟩

/-- THE ONE PURE STATEMENT of wigwaglaw16_PacerFull: yours. -/
def wigwaglaw16_PacerFull.Pure : Prop := ∀ (a0 : Int) (a1 : Int) (a2 : Int) (a3 : Int) (a4 : Int), (Lit.int .u32 a0).wf = true → (Lit.int .u16 a1).wf = true → (Lit.int .u32 a2).wf = true → (Lit.int .u32 a3).wf = true → (Lit.int .u32 a4).wf = true → wigwaglaw16_PacerFull.f a0 a1 a2 a3 a4 = some true
theorem wigwaglaw16_PacerFull.walk (P : wigwaglaw16_PacerFull.Pure) (a0 : Int) (a1 : Int) (a2 : Int) (a3 : Int) (a4 : Int) (w : World) (w0 : (Lit.int .u32 a0).wf = true) (w1 : (Lit.int .u16 a1).wf = true) (w2 : (Lit.int .u32 a2).wf = true) (w3 : (Lit.int .u32 a3).wf = true) (w4 : (Lit.int .u32 a4).wf = true) :
    Calls Try.prog 7 #[.int .u32 a0, .int .u16 a1, .int .u32 a2, .int .u32 a3, .int .u32 a4] w fun e w' => e = .returned (.bool true) ∧ Below w.heap.size w w' := by
  have h := P a0 a1 a2 a3 a4 w0 w1 w2 w3 w4
  refine (wigwaglaw16_PacerFull.calls a0 a1 a2 a3 a4 true w h).mono ?_
  rintro e w' ⟨rfl, hd⟩
  exact ⟨rfl, hd⟩

end Go.Proofs.Ytiekeofcfpnlkaa.P
