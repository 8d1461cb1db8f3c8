-- Printed for this claim by xprint.py of this session: contracts of this session's own stand in for what the print does not take
import Derived.Test.YtidpokbgdfjbnaaPx0
import Derived.Test.YtidpokbgdfjbnaaPx1
import Derived.Test.YtidpokbgdfjbnaaPx3
import Derived.Test.YtidpokbgdfjbnaaPx5
import Derived.Test.YtidpokbgdfjbnaaPx6
namespace Go.Proofs.Ytidpokbgdfjbnaa.P
open Go.RowKit Go.Proofs.YtidpokbgdfjbnaaW.PrintWords Go.Proofs.YtidpokbgdfjbnaaW.PrintLast Go.Proofs.YtidpokbgdfjbnaaW.PrintMore
attribute [local go_sem] max2_int min2_int max_two min_two max_three min_three max_four min_four   -- for this text's walks alone
set_option linter.unusedVariables false
set_option linter.unusedSimpArgs false

attribute [local go_sem high] eqA24
/-! ### wigwaglaw08_awake: function 8 -/
def wigwaglaw08_awake.f (k : Nat)  : Option (Bool) := (rtt_Update.f k false 0 0 0 0 100 0 25).bind fun bt117 => ((rtt_Update.f k bt117.1 bt117.2.1 bt117.2.2.1 bt117.2.2.2.1 bt117.2.2.2.2 150 10 25).bind fun bt123 => (if (bt117.1 && (bt117.2.1 == 100 && (bt117.2.2.1 == 100 && (bt117.2.2.2.1 == 100 && (bt117.2.2.2.2 == 50))))) = true then (if bt123.2.2.2.1 = 105 then (if bt123.2.2.1 = 100 then ((rtt_Timeout.f k false 0 0 0 0 25 0).bind fun t129 => (if t129 = 1022 then (some (374 == 374)) else (some false))) else (some false)) else (some false)) else (some false)))
theorem wigwaglaw08_awake.mono : ∀ k, LeO (wigwaglaw08_awake.f k ) (wigwaglaw08_awake.f (k + 1) ) := by
  intro  k
  unfold wigwaglaw08_awake.f
  repeat' first
      | (with_reducible exact rtt_Timeout.mono _ _ _ _ _ _ _ _)
      | (with_reducible exact rtt_Update.mono _ _ _ _ _ _ _ _ _)
      | (with_reducible exact LeO.refl _)
      | (with_reducible exact LeO.none _)
      | (with_reducible refine LeO.ite ?_ ?_)
      | (with_reducible refine LeO.bind ?_ (fun _ => ?_))
      | exact rtt_Timeout.mono _ _ _ _ _ _ _ _
      | exact rtt_Update.mono _ _ _ _ _ _ _ _ _
      | exact LeO.none _
      | refine LeO.ite ?_ ?_
      | refine LeO.bind ?_ (fun _ => ?_)
set_option maxHeartbeats 8000000 in
set_option maxRecDepth 100000 in
theorem wigwaglaw08_awake.calls (k : Nat)  (r : Bool) (w : World) (h : wigwaglaw08_awake.f k  = some r) :
    Calls Try.prog 8 #[] w fun e w' => e = .returned (.bool r) ∧ Below w.heap.size w w' := by
  have hu24 := Try.underlying24
  have HB := Aside0.mk (Below.refl w.heap.size w)
  have H : ((rtt_Update.f k false 0 0 0 0 100 0 25).bind fun bt117 => ((rtt_Update.f k bt117.1 bt117.2.1 bt117.2.2.1 bt117.2.2.2.1 bt117.2.2.2.2 150 10 25).bind fun bt123 => (if (bt117.1 && (bt117.2.1 == 100 && (bt117.2.2.1 == 100 && (bt117.2.2.2.1 == 100 && (bt117.2.2.2.2 == 50))))) = true then (if bt123.2.2.2.1 = 105 then (if bt123.2.2.1 = 100 then ((rtt_Timeout.f k false 0 0 0 0 25 0).bind fun t129 => (if t129 = 1022 then (some (374 == 374)) else (some false))) else (some false)) else (some false)) else (some false)))) = some r := h
  clear h
  replace H := Option.bind_eq_some_iff.mp H
  obtain ⟨⟨t117, t118, t119, t120, t121⟩, A10, H⟩ := H
  replace H : ((rtt_Update.f k t117 t118 t119 t120 t121 150 10 25).bind fun bt123 => (if (t117 && (t118 == 100 && (t119 == 100 && (t120 == 100 && (t121 == 50))))) = true then (if bt123.2.2.2.1 = 105 then (if bt123.2.2.1 = 100 then ((rtt_Timeout.f k false 0 0 0 0 25 0).bind fun t129 => (if t129 = 1022 then (some (374 == 374)) else (some false))) else (some false)) else (some false)) else (some false))) = some r := H
  have A1 := Aside0.mk A10
  clear A10
  replace H := Option.bind_eq_some_iff.mp H
  obtain ⟨⟨t123, t124, t125, t126, t127⟩, A20, H⟩ := H
  replace H : (if (t117 && (t118 == 100 && (t119 == 100 && (t120 == 100 && (t121 == 50))))) = true then (if t126 = 105 then (if t125 = 100 then ((rtt_Timeout.f k false 0 0 0 0 25 0).bind fun t129 => (if t129 = 1022 then (some (374 == 374)) else (some false))) else (some false)) else (some false)) else (some false)) = some r := H
  have A2 := Aside0.mk A20
  clear A20
  have HS3 := Aside0.mk H
  clear H
  go_enter Try.func8, Try.ntmps8
  go_upto_region 3 with (first | ((with_reducible refine gate_callee (f := 9) rfl ?_); refine goesL_ (some 4) rfl rfl Try.func9 (by kernel_rfl) rfl #[.agg #[.bool false, .int .u64 0, .int .u64 0, .int .u64 0, .int .u64 0], .int .u64 100, .int .u64 0, .int .u64 25] rfl (by (try simp only [List.map_toArray, List.map_cons, List.map_nil]); first | done | rfl | (simp only [List.length_drop, List.length_take]; rfl)) ?_; (with_reducible refine (rtt_Update.calls k false 0 0 0 0 100 0 25 t117 t118 t119 t120 t121 _ A1.out).mono ?_); rintro e w4 ⟨rfl, hb⟩; refine ⟨_, rfl, ?_⟩; have n0_ := Aside0.mk (below_step (by repeat (first | (with_reducible first | exact HB.out | apply below_alloc | apply pw_below_drewN | apply below_drew1) | exact HB.out)) hb); clear HB; have HB := n0_; clear n0_; (try clear hb); (try clear hb2); (try clear hk); (try clear hi)) | ((with_reducible refine gate_dst (N := 1) rfl ?_); refine box_event ?hg (N := 1) ?hd (cs := #[.bool false, .int .u64 0, .int .u64 0, .int .u64 0, .int .u64 0]) (t := 24) ?hr ?_; (case hd => rfl); (case hg => rfl); (case hr => first | (go_simp; done) | (go_simp; rfl)); intro gb122 hg w5 hbox hb; have n0_ := Aside0.mk (below_step (by repeat (first | (with_reducible first | exact HB.out | apply below_alloc | apply pw_below_drewN | apply below_drew1) | exact HB.out)) hb); have n1_ := Aside0.mk (hbox); have n2_ := Aside0.mk ((by rw [hg]; exact (below_size (by repeat (first | (with_reducible first | exact HB.out | apply below_alloc | apply pw_below_drewN | apply below_drew1) | exact HB.out))) : w.heap.size ≤ gb122)); have n3_ := Aside0.mk ((by rw [hg]; exact (below_size (by repeat (first | (with_reducible first | exact HB.out | apply below_alloc | apply pw_below_drewN | apply below_drew1) | exact HB.out))) : w.heap.size ≤ gb122)); clear HB; have HB := n0_; have BK122 := n1_; have GW122 := n2_; have GE122 := n3_; clear n0_ n1_ n2_ n3_; clear hb hbox hg; have hcz6_0 : w5.cell? ⟨gb122, 0, none⟩ = some (.bool false) := (blk_cell BK122.out 0).trans rfl; have hcz6_1 : w5.cell? ⟨gb122, 1, none⟩ = some (.int .u64 0) := (blk_cell BK122.out 1).trans rfl; have hcz6_2 : w5.cell? ⟨gb122, 2, none⟩ = some (.int .u64 0) := (blk_cell BK122.out 2).trans rfl; have hcz6_3 : w5.cell? ⟨gb122, 3, none⟩ = some (.int .u64 0) := (blk_cell BK122.out 3).trans rfl; have hcz6_4 : w5.cell? ⟨gb122, 4, none⟩ = some (.int .u64 0) := (blk_cell BK122.out 4).trans rfl; have hfz6_0 := blk_frozen BK122.out 0; have hfz6_1 := blk_frozen BK122.out 1; have hfz6_2 := blk_frozen BK122.out 2; have hfz6_3 := blk_frozen BK122.out 3; have hfz6_4 := blk_frozen BK122.out 4) | ((with_reducible refine gate_callee (f := 9) rfl ?_); refine goesL_ (some 6) rfl rfl Try.func9 (by kernel_rfl) rfl #[.agg #[.bool t117, .int .u64 t118, .int .u64 t119, .int .u64 t120, .int .u64 t121], .int .u64 150, .int .u64 10, .int .u64 25] rfl (by (try simp only [List.map_toArray, List.map_cons, List.map_nil]); first | done | rfl | (simp only [List.length_drop, List.length_take]; rfl)) ?_; (with_reducible refine (rtt_Update.calls k t117 t118 t119 t120 t121 150 10 25 t123 t124 t125 t126 t127 _ A2.out).mono ?_); rintro e w7 ⟨rfl, hb⟩; refine ⟨_, rfl, ?_⟩; have n0_ := Aside0.mk (blk_below (g := gb122) (o := .cells #[.bool t117, .int .u64 t118, .int .u64 t119, .int .u64 t120, .int .u64 t121] 24 (0, 0)) (by (with_reducible repeat (first | refine blk_drewN ?_ _ | refine blk_drew ?_ | refine blk_alloc ?_ _)); refine blk_put (cs := #[.bool t117, .int .u64 t118, .int .u64 t119, .int .u64 t120, .int .u64 0]) ?_ 4 _ rfl; (with_reducible repeat (first | refine blk_drewN ?_ _ | refine blk_drew ?_ | refine blk_alloc ?_ _)); refine blk_put (cs := #[.bool t117, .int .u64 t118, .int .u64 t119, .int .u64 0, .int .u64 0]) ?_ 3 _ rfl; (with_reducible repeat (first | refine blk_drewN ?_ _ | refine blk_drew ?_ | refine blk_alloc ?_ _)); refine blk_put (cs := #[.bool t117, .int .u64 t118, .int .u64 0, .int .u64 0, .int .u64 0]) ?_ 2 _ rfl; (with_reducible repeat (first | refine blk_drewN ?_ _ | refine blk_drew ?_ | refine blk_alloc ?_ _)); refine blk_put (cs := #[.bool t117, .int .u64 0, .int .u64 0, .int .u64 0, .int .u64 0]) ?_ 1 _ rfl; (with_reducible repeat (first | refine blk_drewN ?_ _ | refine blk_drew ?_ | refine blk_alloc ?_ _)); refine blk_put (cs := #[.bool false, .int .u64 0, .int .u64 0, .int .u64 0, .int .u64 0]) ?_ 0 _ rfl; (with_reducible repeat (first | refine blk_drewN ?_ _ | refine blk_drew ?_ | refine blk_alloc ?_ _)); exact BK122.out) hb); have n1_ := Aside0.mk (below_step (by repeat (first | (with_reducible first | exact HB.out | apply below_alloc | apply pw_below_drewN | apply below_drew1 | refine below_set ?_ GE122.out) | exact HB.out)) hb); clear BK122; clear HB; have BK122 := n0_; have HB := n1_; clear n0_ n1_; (try clear hb); (try clear hb2); (try clear hk); (try clear hi)) | ((with_reducible refine gate_dst (N := 2) rfl ?_); refine box_event ?hg (N := 2) ?hd (cs := #[.bool false, .int .u64 0, .int .u64 0, .int .u64 0, .int .u64 0]) (t := 24) ?hr ?_; (case hd => rfl); (case hg => rfl); (case hr => first | (go_simp; done) | (go_simp; rfl)); intro gb128 hg w8 hbox hb; have n0_ := Aside0.mk (blk_below (g := gb122) (o := .cells #[.bool t117, .int .u64 t118, .int .u64 t119, .int .u64 t120, .int .u64 t121] 24 (0, 0)) (by (with_reducible repeat (first | refine blk_drewN ?_ _ | refine blk_drew ?_ | refine blk_alloc ?_ _)); exact BK122.out) hb); have n1_ := Aside0.mk (below_step (by repeat (first | (with_reducible first | exact HB.out | apply below_alloc | apply pw_below_drewN | apply below_drew1 | refine below_set ?_ GE122.out) | exact HB.out)) hb); have n2_ := Aside0.mk (hbox); have n3_ := Aside0.mk ((by rw [hg]; exact (below_size (by repeat (first | (with_reducible first | exact HB.out | apply below_alloc | apply pw_below_drewN | apply below_drew1 | refine below_set ?_ GE122.out) | exact HB.out))) : w.heap.size ≤ gb128)); have n4_ := Aside0.mk ((by rw [hg]; exact (below_size (by repeat (first | (with_reducible first | exact HB.out | apply below_alloc | apply pw_below_drewN | apply below_drew1 | refine below_set ?_ GE122.out) | exact HB.out))) : w.heap.size ≤ gb128)); have n5_ := Aside0.mk ((by rw [hg]; exact Nat.ne_of_lt (blk_lt (g := gb122) (o := .cells #[.bool t117, .int .u64 t118, .int .u64 t119, .int .u64 t120, .int .u64 t121] 24 (0, 0)) (by (with_reducible repeat (first | refine blk_drewN ?_ _ | refine blk_drew ?_ | refine blk_alloc ?_ _)); exact BK122.out)) : gb122 ≠ gb128)); have n6_ := Aside0.mk ((by rw [hg]; exact Nat.ne_of_gt (blk_lt (g := gb122) (o := .cells #[.bool t117, .int .u64 t118, .int .u64 t119, .int .u64 t120, .int .u64 t121] 24 (0, 0)) (by (with_reducible repeat (first | refine blk_drewN ?_ _ | refine blk_drew ?_ | refine blk_alloc ?_ _)); exact BK122.out)) : gb128 ≠ gb122)); clear BK122; clear HB; have BK122 := n0_; have HB := n1_; have BK128 := n2_; have GW128 := n3_; have GE128 := n4_; have NB122_128 := n5_; have NB128_122 := n6_; clear n0_ n1_ n2_ n3_ n4_ n5_ n6_; clear hb hbox hg; have hnb9 := NB128_122.out; have hnc9 := NB122_128.out; have hcz10_0 : w8.cell? ⟨gb128, 0, none⟩ = some (.bool false) := (blk_cell BK128.out 0).trans rfl; have hcz10_1 : w8.cell? ⟨gb128, 1, none⟩ = some (.int .u64 0) := (blk_cell BK128.out 1).trans rfl; have hcz10_2 : w8.cell? ⟨gb128, 2, none⟩ = some (.int .u64 0) := (blk_cell BK128.out 2).trans rfl; have hcz10_3 : w8.cell? ⟨gb128, 3, none⟩ = some (.int .u64 0) := (blk_cell BK128.out 3).trans rfl; have hcz10_4 : w8.cell? ⟨gb128, 4, none⟩ = some (.int .u64 0) := (blk_cell BK128.out 4).trans rfl; have hfz10_0 := blk_frozen BK128.out 0; have hfz10_1 := blk_frozen BK128.out 1; have hfz10_2 := blk_frozen BK128.out 2; have hfz10_3 := blk_frozen BK128.out 3; have hfz10_4 := blk_frozen BK128.out 4))
  (try simp only [Act.put, List.setIfInBounds_toArray, List.set_cons_zero, List.set_cons_succ])
  have H := HS3.out
  clear HS3
  by_cases c11 : (t117 && (t118 == 100 && (t119 == 100 && (t120 == 100 && (t121 == 50))))) = true
  · rw [if_pos c11] at H
    have c11b0 : (t117 && (t118 == 100 && (t119 == 100 && (t120 == 100 && (t121 == 50))))) = true := c11
    clear c11
    by_cases c12 : t126 = 105
    · rw [if_pos c12] at H
      have c12b0 : (t126 == 105) = true := beq_iff_eq.mpr c12
      have c12b1 : (t126 != 105) = false := bne_eq_false_iff_eq.mpr c12
      clear c12
      by_cases c13 : t125 = 100
      · rw [if_pos c13] at H
        have c13b0 : (t125 == 100) = true := beq_iff_eq.mpr c13
        have c13b1 : (t125 != 100) = false := bne_eq_false_iff_eq.mpr c13
        clear c13
        replace H := Option.bind_eq_some_iff.mp H
        obtain ⟨t129, A140, H⟩ := H
        replace H : (if t129 = 1022 then (some (374 == 374)) else (some false)) = some r := H
        have A14 := Aside0.mk A140
        clear A140
        by_cases c15 : t129 = 1022
        · rw [if_pos c15] at H
          have c15b0 : (t129 == 1022) = true := beq_iff_eq.mpr c15
          have c15b1 : (t129 != 1022) = false := bne_eq_false_iff_eq.mpr c15
          clear c15
          have A16 := Aside0.mk (show rtt_Late.f false 0 0 0 0 = some (374) from by first | (decide +kernel) | kernel_rfl)
          obtain rfl := Option.some.inj H
          have hnb17 := NB122_128.out
          have hnc17 := NB128_122.out
          have hcz18_0 : w8.cell? ⟨gb122, 0, none⟩ = some (.bool t117) := (blk_cell BK122.out 0).trans rfl
          have hcz18_1 : w8.cell? ⟨gb122, 1, none⟩ = some (.int .u64 t118) := (blk_cell BK122.out 1).trans rfl
          have hcz18_2 : w8.cell? ⟨gb122, 2, none⟩ = some (.int .u64 t119) := (blk_cell BK122.out 2).trans rfl
          have hcz18_3 : w8.cell? ⟨gb122, 3, none⟩ = some (.int .u64 t120) := (blk_cell BK122.out 3).trans rfl
          have hcz18_4 : w8.cell? ⟨gb122, 4, none⟩ = some (.int .u64 t121) := (blk_cell BK122.out 4).trans rfl
          have hfz18_0 := blk_frozen BK122.out 0
          have hfz18_1 := blk_frozen BK122.out 1
          have hfz18_2 := blk_frozen BK122.out 2
          have hfz18_3 := blk_frozen BK122.out 3
          have hfz18_4 := blk_frozen BK122.out 4
          have hcz19_0 : w8.cell? ⟨gb128, 0, none⟩ = some (.bool false) := (blk_cell BK128.out 0).trans rfl
          have hcz19_1 : w8.cell? ⟨gb128, 1, none⟩ = some (.int .u64 0) := (blk_cell BK128.out 1).trans rfl
          have hcz19_2 : w8.cell? ⟨gb128, 2, none⟩ = some (.int .u64 0) := (blk_cell BK128.out 2).trans rfl
          have hcz19_3 : w8.cell? ⟨gb128, 3, none⟩ = some (.int .u64 0) := (blk_cell BK128.out 3).trans rfl
          have hcz19_4 : w8.cell? ⟨gb128, 4, none⟩ = some (.int .u64 0) := (blk_cell BK128.out 4).trans rfl
          have hfz19_0 := blk_frozen BK128.out 0
          have hfz19_1 := blk_frozen BK128.out 1
          have hfz19_2 := blk_frozen BK128.out 2
          have hfz19_3 := blk_frozen BK128.out 3
          have hfz19_4 := blk_frozen BK128.out 4
          go_wp2_with (first | (go_at_call 11; (with_reducible refine (rtt_Timeout.calls k false 0 0 0 0 25 0 t129 _ A14.out).mono ?_); rintro e w20 ⟨rfl, hb⟩; have n0_ := Aside0.mk (blk_below (g := gb122) (o := .cells #[.bool t117, .int .u64 t118, .int .u64 t119, .int .u64 t120, .int .u64 t121] 24 (0, 0)) (by (with_reducible repeat (first | refine blk_drewN ?_ _ | refine blk_drew ?_ | refine blk_alloc ?_ _)); refine blk_far ?_ NB122_128.out _; (with_reducible repeat (first | refine blk_drewN ?_ _ | refine blk_drew ?_ | refine blk_alloc ?_ _)); refine blk_far ?_ NB122_128.out _; (with_reducible repeat (first | refine blk_drewN ?_ _ | refine blk_drew ?_ | refine blk_alloc ?_ _)); refine blk_far ?_ NB122_128.out _; (with_reducible repeat (first | refine blk_drewN ?_ _ | refine blk_drew ?_ | refine blk_alloc ?_ _)); refine blk_far ?_ NB122_128.out _; (with_reducible repeat (first | refine blk_drewN ?_ _ | refine blk_drew ?_ | refine blk_alloc ?_ _)); refine blk_far ?_ NB122_128.out _; (with_reducible repeat (first | refine blk_drewN ?_ _ | refine blk_drew ?_ | refine blk_alloc ?_ _)); exact BK122.out) hb); have n1_ := Aside0.mk (blk_below (g := gb128) (o := .cells #[.bool t123, .int .u64 t124, .int .u64 t125, .int .u64 t126, .int .u64 t127] 24 (0, 0)) (by (with_reducible repeat (first | refine blk_drewN ?_ _ | refine blk_drew ?_ | refine blk_alloc ?_ _)); refine blk_put (cs := #[.bool t123, .int .u64 t124, .int .u64 t125, .int .u64 t126, .int .u64 0]) ?_ 4 _ rfl; (with_reducible repeat (first | refine blk_drewN ?_ _ | refine blk_drew ?_ | refine blk_alloc ?_ _)); refine blk_put (cs := #[.bool t123, .int .u64 t124, .int .u64 t125, .int .u64 0, .int .u64 0]) ?_ 3 _ rfl; (with_reducible repeat (first | refine blk_drewN ?_ _ | refine blk_drew ?_ | refine blk_alloc ?_ _)); refine blk_put (cs := #[.bool t123, .int .u64 t124, .int .u64 0, .int .u64 0, .int .u64 0]) ?_ 2 _ rfl; (with_reducible repeat (first | refine blk_drewN ?_ _ | refine blk_drew ?_ | refine blk_alloc ?_ _)); refine blk_put (cs := #[.bool t123, .int .u64 0, .int .u64 0, .int .u64 0, .int .u64 0]) ?_ 1 _ rfl; (with_reducible repeat (first | refine blk_drewN ?_ _ | refine blk_drew ?_ | refine blk_alloc ?_ _)); refine blk_put (cs := #[.bool false, .int .u64 0, .int .u64 0, .int .u64 0, .int .u64 0]) ?_ 0 _ rfl; (with_reducible repeat (first | refine blk_drewN ?_ _ | refine blk_drew ?_ | refine blk_alloc ?_ _)); exact BK128.out) hb); have n2_ := Aside0.mk (below_step (by repeat (first | (with_reducible first | exact HB.out | apply below_alloc | apply pw_below_drewN | apply below_drew1 | refine below_set ?_ GE122.out | refine below_set ?_ GE128.out) | exact HB.out)) hb); clear BK122; clear BK128; clear HB; have BK122 := n0_; have BK128 := n1_; have HB := n2_; clear n0_ n1_ n2_; (try clear hb); (try clear hb2); (try clear hk); (try clear hi)) | (go_at_call 13; (with_reducible refine (rtt_Late.calls false 0 0 0 0 374 _ A16.out).mono ?_); rintro e w21 ⟨rfl, hb⟩; have n0_ := Aside0.mk (blk_below (g := gb122) (o := .cells #[.bool t117, .int .u64 t118, .int .u64 t119, .int .u64 t120, .int .u64 t121] 24 (0, 0)) (by (with_reducible repeat (first | refine blk_drewN ?_ _ | refine blk_drew ?_ | refine blk_alloc ?_ _)); exact BK122.out) hb); have n1_ := Aside0.mk (blk_below (g := gb128) (o := .cells #[.bool t123, .int .u64 t124, .int .u64 t125, .int .u64 t126, .int .u64 t127] 24 (0, 0)) (by (with_reducible repeat (first | refine blk_drewN ?_ _ | refine blk_drew ?_ | refine blk_alloc ?_ _)); exact BK128.out) hb); have n2_ := Aside0.mk (below_step (by repeat (first | (with_reducible first | exact HB.out | apply below_alloc | apply pw_below_drewN | apply below_drew1 | refine below_set ?_ GE122.out | refine below_set ?_ GE128.out) | exact HB.out)) hb); clear BK122; clear BK128; clear HB; have BK122 := n0_; have BK128 := n1_; have HB := n2_; clear n0_ n1_ n2_; (try clear hb); (try clear hb2); (try clear hk); (try clear hi)))
          go_ret
          exact ⟨by first | rfl | (simp [errW_none, errW_some] <;> rfl) | (simp [*, errW_none, errW_some] <;> rfl), by repeat (first | (with_reducible first | exact HB.out | apply below_alloc | apply pw_below_drewN | apply below_drew1 | refine below_set ?_ GE122.out | refine below_set ?_ GE128.out) | exact HB.out)⟩
        · rw [if_neg c15] at H
          have c15b0 : (t129 == 1022) = false := beq_eq_false_iff_ne.mpr c15
          have c15b1 : (t129 != 1022) = true := bne_iff_ne.mpr c15
          obtain rfl := Option.some.inj H
          have hnb22 := NB122_128.out
          have hnc22 := NB128_122.out
          have hcz23_0 : w8.cell? ⟨gb122, 0, none⟩ = some (.bool t117) := (blk_cell BK122.out 0).trans rfl
          have hcz23_1 : w8.cell? ⟨gb122, 1, none⟩ = some (.int .u64 t118) := (blk_cell BK122.out 1).trans rfl
          have hcz23_2 : w8.cell? ⟨gb122, 2, none⟩ = some (.int .u64 t119) := (blk_cell BK122.out 2).trans rfl
          have hcz23_3 : w8.cell? ⟨gb122, 3, none⟩ = some (.int .u64 t120) := (blk_cell BK122.out 3).trans rfl
          have hcz23_4 : w8.cell? ⟨gb122, 4, none⟩ = some (.int .u64 t121) := (blk_cell BK122.out 4).trans rfl
          have hfz23_0 := blk_frozen BK122.out 0
          have hfz23_1 := blk_frozen BK122.out 1
          have hfz23_2 := blk_frozen BK122.out 2
          have hfz23_3 := blk_frozen BK122.out 3
          have hfz23_4 := blk_frozen BK122.out 4
          have hcz24_0 : w8.cell? ⟨gb128, 0, none⟩ = some (.bool false) := (blk_cell BK128.out 0).trans rfl
          have hcz24_1 : w8.cell? ⟨gb128, 1, none⟩ = some (.int .u64 0) := (blk_cell BK128.out 1).trans rfl
          have hcz24_2 : w8.cell? ⟨gb128, 2, none⟩ = some (.int .u64 0) := (blk_cell BK128.out 2).trans rfl
          have hcz24_3 : w8.cell? ⟨gb128, 3, none⟩ = some (.int .u64 0) := (blk_cell BK128.out 3).trans rfl
          have hcz24_4 : w8.cell? ⟨gb128, 4, none⟩ = some (.int .u64 0) := (blk_cell BK128.out 4).trans rfl
          have hfz24_0 := blk_frozen BK128.out 0
          have hfz24_1 := blk_frozen BK128.out 1
          have hfz24_2 := blk_frozen BK128.out 2
          have hfz24_3 := blk_frozen BK128.out 3
          have hfz24_4 := blk_frozen BK128.out 4
          go_wp2_with (first | (go_at_call 11; (with_reducible refine (rtt_Timeout.calls k false 0 0 0 0 25 0 t129 _ A14.out).mono ?_); rintro e w25 ⟨rfl, hb⟩; have n0_ := Aside0.mk (blk_below (g := gb122) (o := .cells #[.bool t117, .int .u64 t118, .int .u64 t119, .int .u64 t120, .int .u64 t121] 24 (0, 0)) (by (with_reducible repeat (first | refine blk_drewN ?_ _ | refine blk_drew ?_ | refine blk_alloc ?_ _)); refine blk_far ?_ NB122_128.out _; (with_reducible repeat (first | refine blk_drewN ?_ _ | refine blk_drew ?_ | refine blk_alloc ?_ _)); refine blk_far ?_ NB122_128.out _; (with_reducible repeat (first | refine blk_drewN ?_ _ | refine blk_drew ?_ | refine blk_alloc ?_ _)); refine blk_far ?_ NB122_128.out _; (with_reducible repeat (first | refine blk_drewN ?_ _ | refine blk_drew ?_ | refine blk_alloc ?_ _)); refine blk_far ?_ NB122_128.out _; (with_reducible repeat (first | refine blk_drewN ?_ _ | refine blk_drew ?_ | refine blk_alloc ?_ _)); refine blk_far ?_ NB122_128.out _; (with_reducible repeat (first | refine blk_drewN ?_ _ | refine blk_drew ?_ | refine blk_alloc ?_ _)); exact BK122.out) hb); have n1_ := Aside0.mk (blk_below (g := gb128) (o := .cells #[.bool t123, .int .u64 t124, .int .u64 t125, .int .u64 t126, .int .u64 t127] 24 (0, 0)) (by (with_reducible repeat (first | refine blk_drewN ?_ _ | refine blk_drew ?_ | refine blk_alloc ?_ _)); refine blk_put (cs := #[.bool t123, .int .u64 t124, .int .u64 t125, .int .u64 t126, .int .u64 0]) ?_ 4 _ rfl; (with_reducible repeat (first | refine blk_drewN ?_ _ | refine blk_drew ?_ | refine blk_alloc ?_ _)); refine blk_put (cs := #[.bool t123, .int .u64 t124, .int .u64 t125, .int .u64 0, .int .u64 0]) ?_ 3 _ rfl; (with_reducible repeat (first | refine blk_drewN ?_ _ | refine blk_drew ?_ | refine blk_alloc ?_ _)); refine blk_put (cs := #[.bool t123, .int .u64 t124, .int .u64 0, .int .u64 0, .int .u64 0]) ?_ 2 _ rfl; (with_reducible repeat (first | refine blk_drewN ?_ _ | refine blk_drew ?_ | refine blk_alloc ?_ _)); refine blk_put (cs := #[.bool t123, .int .u64 0, .int .u64 0, .int .u64 0, .int .u64 0]) ?_ 1 _ rfl; (with_reducible repeat (first | refine blk_drewN ?_ _ | refine blk_drew ?_ | refine blk_alloc ?_ _)); refine blk_put (cs := #[.bool false, .int .u64 0, .int .u64 0, .int .u64 0, .int .u64 0]) ?_ 0 _ rfl; (with_reducible repeat (first | refine blk_drewN ?_ _ | refine blk_drew ?_ | refine blk_alloc ?_ _)); exact BK128.out) hb); have n2_ := Aside0.mk (below_step (by repeat (first | (with_reducible first | exact HB.out | apply below_alloc | apply pw_below_drewN | apply below_drew1 | refine below_set ?_ GE122.out | refine below_set ?_ GE128.out) | exact HB.out)) hb); clear BK122; clear BK128; clear HB; have BK122 := n0_; have BK128 := n1_; have HB := n2_; clear n0_ n1_ n2_; (try clear hb); (try clear hb2); (try clear hk); (try clear hi)))
          go_ret
          exact ⟨by first | rfl | (simp [errW_none, errW_some] <;> rfl) | (simp [*, errW_none, errW_some] <;> rfl), by repeat (first | (with_reducible first | exact HB.out | apply below_alloc | apply pw_below_drewN | apply below_drew1 | refine below_set ?_ GE122.out | refine below_set ?_ GE128.out) | exact HB.out)⟩
      · rw [if_neg c13] at H
        have c13b0 : (t125 == 100) = false := beq_eq_false_iff_ne.mpr c13
        have c13b1 : (t125 != 100) = true := bne_iff_ne.mpr c13
        obtain rfl := Option.some.inj H
        have hnb26 := NB122_128.out
        have hnc26 := NB128_122.out
        have hcz27_0 : w8.cell? ⟨gb122, 0, none⟩ = some (.bool t117) := (blk_cell BK122.out 0).trans rfl
        have hcz27_1 : w8.cell? ⟨gb122, 1, none⟩ = some (.int .u64 t118) := (blk_cell BK122.out 1).trans rfl
        have hcz27_2 : w8.cell? ⟨gb122, 2, none⟩ = some (.int .u64 t119) := (blk_cell BK122.out 2).trans rfl
        have hcz27_3 : w8.cell? ⟨gb122, 3, none⟩ = some (.int .u64 t120) := (blk_cell BK122.out 3).trans rfl
        have hcz27_4 : w8.cell? ⟨gb122, 4, none⟩ = some (.int .u64 t121) := (blk_cell BK122.out 4).trans rfl
        have hfz27_0 := blk_frozen BK122.out 0
        have hfz27_1 := blk_frozen BK122.out 1
        have hfz27_2 := blk_frozen BK122.out 2
        have hfz27_3 := blk_frozen BK122.out 3
        have hfz27_4 := blk_frozen BK122.out 4
        have hcz28_0 : w8.cell? ⟨gb128, 0, none⟩ = some (.bool false) := (blk_cell BK128.out 0).trans rfl
        have hcz28_1 : w8.cell? ⟨gb128, 1, none⟩ = some (.int .u64 0) := (blk_cell BK128.out 1).trans rfl
        have hcz28_2 : w8.cell? ⟨gb128, 2, none⟩ = some (.int .u64 0) := (blk_cell BK128.out 2).trans rfl
        have hcz28_3 : w8.cell? ⟨gb128, 3, none⟩ = some (.int .u64 0) := (blk_cell BK128.out 3).trans rfl
        have hcz28_4 : w8.cell? ⟨gb128, 4, none⟩ = some (.int .u64 0) := (blk_cell BK128.out 4).trans rfl
        have hfz28_0 := blk_frozen BK128.out 0
        have hfz28_1 := blk_frozen BK128.out 1
        have hfz28_2 := blk_frozen BK128.out 2
        have hfz28_3 := blk_frozen BK128.out 3
        have hfz28_4 := blk_frozen BK128.out 4
        go_wp2
        go_ret
        exact ⟨by first | rfl | (simp [errW_none, errW_some] <;> rfl) | (simp [*, errW_none, errW_some] <;> rfl), by repeat (first | (with_reducible first | exact HB.out | apply below_alloc | apply pw_below_drewN | apply below_drew1 | refine below_set ?_ GE122.out | refine below_set ?_ GE128.out) | exact HB.out)⟩
    · rw [if_neg c12] at H
      have c12b0 : (t126 == 105) = false := beq_eq_false_iff_ne.mpr c12
      have c12b1 : (t126 != 105) = true := bne_iff_ne.mpr c12
      obtain rfl := Option.some.inj H
      have hnb29 := NB122_128.out
      have hnc29 := NB128_122.out
      have hcz30_0 : w8.cell? ⟨gb122, 0, none⟩ = some (.bool t117) := (blk_cell BK122.out 0).trans rfl
      have hcz30_1 : w8.cell? ⟨gb122, 1, none⟩ = some (.int .u64 t118) := (blk_cell BK122.out 1).trans rfl
      have hcz30_2 : w8.cell? ⟨gb122, 2, none⟩ = some (.int .u64 t119) := (blk_cell BK122.out 2).trans rfl
      have hcz30_3 : w8.cell? ⟨gb122, 3, none⟩ = some (.int .u64 t120) := (blk_cell BK122.out 3).trans rfl
      have hcz30_4 : w8.cell? ⟨gb122, 4, none⟩ = some (.int .u64 t121) := (blk_cell BK122.out 4).trans rfl
      have hfz30_0 := blk_frozen BK122.out 0
      have hfz30_1 := blk_frozen BK122.out 1
      have hfz30_2 := blk_frozen BK122.out 2
      have hfz30_3 := blk_frozen BK122.out 3
      have hfz30_4 := blk_frozen BK122.out 4
      have hcz31_0 : w8.cell? ⟨gb128, 0, none⟩ = some (.bool false) := (blk_cell BK128.out 0).trans rfl
      have hcz31_1 : w8.cell? ⟨gb128, 1, none⟩ = some (.int .u64 0) := (blk_cell BK128.out 1).trans rfl
      have hcz31_2 : w8.cell? ⟨gb128, 2, none⟩ = some (.int .u64 0) := (blk_cell BK128.out 2).trans rfl
      have hcz31_3 : w8.cell? ⟨gb128, 3, none⟩ = some (.int .u64 0) := (blk_cell BK128.out 3).trans rfl
      have hcz31_4 : w8.cell? ⟨gb128, 4, none⟩ = some (.int .u64 0) := (blk_cell BK128.out 4).trans rfl
      have hfz31_0 := blk_frozen BK128.out 0
      have hfz31_1 := blk_frozen BK128.out 1
      have hfz31_2 := blk_frozen BK128.out 2
      have hfz31_3 := blk_frozen BK128.out 3
      have hfz31_4 := blk_frozen BK128.out 4
      go_wp2
      go_ret
      exact ⟨by first | rfl | (simp [errW_none, errW_some] <;> rfl) | (simp [*, errW_none, errW_some] <;> rfl), by repeat (first | (with_reducible first | exact HB.out | apply below_alloc | apply pw_below_drewN | apply below_drew1 | refine below_set ?_ GE122.out | refine below_set ?_ GE128.out) | exact HB.out)⟩
  · rw [if_neg c11] at H
    have c11b0 : (t117 && (t118 == 100 && (t119 == 100 && (t120 == 100 && (t121 == 50))))) = false := by simpa using c11
    clear c11
    obtain rfl := Option.some.inj H
    have hnb32 := NB122_128.out
    have hnc32 := NB128_122.out
    have hcz33_0 : w8.cell? ⟨gb122, 0, none⟩ = some (.bool t117) := (blk_cell BK122.out 0).trans rfl
    have hcz33_1 : w8.cell? ⟨gb122, 1, none⟩ = some (.int .u64 t118) := (blk_cell BK122.out 1).trans rfl
    have hcz33_2 : w8.cell? ⟨gb122, 2, none⟩ = some (.int .u64 t119) := (blk_cell BK122.out 2).trans rfl
    have hcz33_3 : w8.cell? ⟨gb122, 3, none⟩ = some (.int .u64 t120) := (blk_cell BK122.out 3).trans rfl
    have hcz33_4 : w8.cell? ⟨gb122, 4, none⟩ = some (.int .u64 t121) := (blk_cell BK122.out 4).trans rfl
    have hfz33_0 := blk_frozen BK122.out 0
    have hfz33_1 := blk_frozen BK122.out 1
    have hfz33_2 := blk_frozen BK122.out 2
    have hfz33_3 := blk_frozen BK122.out 3
    have hfz33_4 := blk_frozen BK122.out 4
    go_wp2
    go_ret
    exact ⟨by first | rfl | (simp [errW_none, errW_some] <;> rfl) | (simp [*, errW_none, errW_some] <;> rfl), by repeat (first | (with_reducible first | exact HB.out | apply below_alloc | apply pw_below_drewN | apply below_drew1 | refine below_set ?_ GE122.out | refine below_set ?_ GE128.out) | exact HB.out)⟩

end Go.Proofs.Ytidpokbgdfjbnaa.P
