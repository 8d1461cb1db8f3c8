-- Printed for this claim by xprint.py of this session: contracts of this session's own stand in for what the print does not take
import Derived.Test.YthclohjlbajclaaPx0
import Derived.Test.YthclohjlbajclaaPx3
import Derived.Test.YthclohjlbajclaaPx4
namespace Go.Proofs.Ythclohjlbajclaa.P
open Go.RowKit Go.Proofs.YthclohjlbajclaaW.PrintWords Go.Proofs.YthclohjlbajclaaW.PrintLast Go.Proofs.YthclohjlbajclaaW.PrintMore
attribute [local go_sem] max2_int min2_int max_two min_two max_three min_three max_four min_four   -- for this text's walks alone
set_option linter.unusedVariables false
set_option linter.unusedSimpArgs false

/-! ### wigwaglaw11_awake: function 9 -/
mutual
def wigwaglaw11_awake.l0 : Nat → Int → Int → Int → Int → Int → Int → Int → Int → Int → Option (Bool)
  | 0, _, _, _, _, _, _, _, _, _ => none
  | k + 1, x2, x3, x121000, x121001, x121002, x121003, x121004, x121005, x121006 => if x3 < 16 then (if x3 ≥ 8 then (wigwaglaw11_awake.j1 k x2 x3 113 x121000 x121001 x121002 x121003 x121004 x121005 x121006) else (wigwaglaw11_awake.j1 k x2 x3 100 x121000 x121001 x121002 x121003 x121004 x121005 x121006)) else (if x2 = 1200 then (if x121000 = 1 then (if x121005 = 113 then ((hystart_Grow.f x121000 x121001 x121002 x121003 x121004 x121005 x121006 1200).bind fun t136 => (if t136 = 300 then ((hystart_Finish.f x121000 x121001 x121002 x121003 x121004 x121005 x121006).bind fun bt137 => ((hystart_Grow.f bt137.1 bt137.2.1 bt137.2.2.1 bt137.2.2.2.1 bt137.2.2.2.2.1 bt137.2.2.2.2.2.1 bt137.2.2.2.2.2.2 1200).bind fun t144 => (some (t144 == 0)))) else (some false))) else (some false)) else (some false)) else (some false))
def wigwaglaw11_awake.j1 : Nat → Int → Int → Int → Int → Int → Int → Int → Int → Int → Int → Option (Bool)
  | 0, _, _, _, _, _, _, _, _, _, _ => none
  | k + 1, x2, x3, x4, x121000, x121001, x121002, x121003, x121004, x121005, x121006 => if x3 ≥ 8 then ((hystart_Sample.f k x121000 x121001 x121002 x121003 x121004 x121005 x121006 10 20 x4).bind fun bt122 => (wigwaglaw11_awake.l0 k x2 (wrap64 (x3 + 1)) bt122.1 bt122.2.1 bt122.2.2.1 bt122.2.2.2.1 bt122.2.2.2.2.1 bt122.2.2.2.2.2.1 bt122.2.2.2.2.2.2)) else ((hystart_Sample.f k x121000 x121001 x121002 x121003 x121004 x121005 x121006 (IntKind.u64.wrap (x3)) 20 x4).bind fun bt129 => (wigwaglaw11_awake.l0 k x2 (wrap64 (x3 + 1)) bt129.1 bt129.2.1 bt129.2.2.1 bt129.2.2.2.1 bt129.2.2.2.2.1 bt129.2.2.2.2.2.1 bt129.2.2.2.2.2.2))
end
def wigwaglaw11_awake.f (k : Nat)  : Option (Bool) := (hystart_New.f 10).bind fun bt113 => ((hystart_Grow.f bt113.1 bt113.2.1 bt113.2.2.1 bt113.2.2.2.1 bt113.2.2.2.2.1 bt113.2.2.2.2.2.1 bt113.2.2.2.2.2.2 1200).bind fun t121 => (wigwaglaw11_awake.l0 k t121 0 bt113.1 bt113.2.1 bt113.2.2.1 bt113.2.2.2.1 bt113.2.2.2.2.1 bt113.2.2.2.2.2.1 bt113.2.2.2.2.2.2))
theorem wigwaglaw11_awake.mono_l : ∀ k, (∀ y0 y1 y2 y3 y4 y5 y6 y7 y8, LeO (wigwaglaw11_awake.l0 k y0 y1 y2 y3 y4 y5 y6 y7 y8) (wigwaglaw11_awake.l0 (k + 1) y0 y1 y2 y3 y4 y5 y6 y7 y8)) ∧ (∀ y0 y1 y2 y3 y4 y5 y6 y7 y8 y9, LeO (wigwaglaw11_awake.j1 k y0 y1 y2 y3 y4 y5 y6 y7 y8 y9) (wigwaglaw11_awake.j1 (k + 1) y0 y1 y2 y3 y4 y5 y6 y7 y8 y9))
  | 0 => ⟨fun _ _ _ _ _ _ _ _ _ r h => by simp [wigwaglaw11_awake.l0] at h, fun _ _ _ _ _ _ _ _ _ _ r h => by simp [wigwaglaw11_awake.j1] at h⟩
  | k + 1 => by
    obtain ⟨ih0, ih1⟩ := wigwaglaw11_awake.mono_l k
    refine ⟨?_, ?_⟩
    · intro y0 y1 y2 y3 y4 y5 y6 y7 y8
      unfold wigwaglaw11_awake.l0
      repeat' first
      | (with_reducible exact ih0 _ _ _ _ _ _ _ _ _)
      | (with_reducible exact ih1 _ _ _ _ _ _ _ _ _ _)
      | (with_reducible exact hystart_Sample.mono _ _ _ _ _ _ _ _ _ _ _)
      | (with_reducible exact LeO.refl _)
      | (with_reducible exact LeO.none _)
      | (with_reducible refine LeO.ite ?_ ?_)
      | (with_reducible refine LeO.bind ?_ (fun _ => ?_))
      | exact ih0 _ _ _ _ _ _ _ _ _
      | exact ih1 _ _ _ _ _ _ _ _ _ _
      | exact hystart_Sample.mono _ _ _ _ _ _ _ _ _ _ _
      | exact LeO.none _
      | refine LeO.ite ?_ ?_
      | refine LeO.bind ?_ (fun _ => ?_)
    · intro y0 y1 y2 y3 y4 y5 y6 y7 y8 y9
      unfold wigwaglaw11_awake.j1
      repeat' first
      | (with_reducible exact ih0 _ _ _ _ _ _ _ _ _)
      | (with_reducible exact ih1 _ _ _ _ _ _ _ _ _ _)
      | (with_reducible exact hystart_Sample.mono _ _ _ _ _ _ _ _ _ _ _)
      | (with_reducible exact LeO.refl _)
      | (with_reducible exact LeO.none _)
      | (with_reducible refine LeO.ite ?_ ?_)
      | (with_reducible refine LeO.bind ?_ (fun _ => ?_))
      | exact ih0 _ _ _ _ _ _ _ _ _
      | exact ih1 _ _ _ _ _ _ _ _ _ _
      | exact hystart_Sample.mono _ _ _ _ _ _ _ _ _ _ _
      | exact LeO.none _
      | refine LeO.ite ?_ ?_
      | refine LeO.bind ?_ (fun _ => ?_)
theorem wigwaglaw11_awake.mono : ∀ k, LeO (wigwaglaw11_awake.f k ) (wigwaglaw11_awake.f (k + 1) ) := by
  intro  k
  obtain ⟨ih0, ih1⟩ := wigwaglaw11_awake.mono_l k
  unfold wigwaglaw11_awake.f
  repeat' first
      | (with_reducible exact ih0 _ _ _ _ _ _ _ _ _)
      | (with_reducible exact ih1 _ _ _ _ _ _ _ _ _ _)
      | (with_reducible exact hystart_Sample.mono _ _ _ _ _ _ _ _ _ _ _)
      | (with_reducible exact LeO.refl _)
      | (with_reducible exact LeO.none _)
      | (with_reducible refine LeO.ite ?_ ?_)
      | (with_reducible refine LeO.bind ?_ (fun _ => ?_))
      | exact ih0 _ _ _ _ _ _ _ _ _
      | exact ih1 _ _ _ _ _ _ _ _ _ _
      | exact hystart_Sample.mono _ _ _ _ _ _ _ _ _ _ _
      | exact LeO.none _
      | refine LeO.ite ?_ ?_
      | refine LeO.bind ?_ (fun _ => ?_)
set_option maxHeartbeats 8000000 in
set_option maxRecDepth 100000 in
theorem wigwaglaw11_awake.calls (k : Nat)  (r : Bool) (w : World) (h : wigwaglaw11_awake.f k  = some r) :
    Calls Try.prog 9 #[] w fun e w' => e = .returned (.bool r) ∧ Below w.heap.size w w' := by
  have hu25 := Try.underlying25
  have HB := Aside0.mk (Below.refl w.heap.size w)
  have H : ((hystart_New.f 10).bind fun bt113 => ((hystart_Grow.f bt113.1 bt113.2.1 bt113.2.2.1 bt113.2.2.2.1 bt113.2.2.2.2.1 bt113.2.2.2.2.2.1 bt113.2.2.2.2.2.2 1200).bind fun t121 => (wigwaglaw11_awake.l0 k t121 0 bt113.1 bt113.2.1 bt113.2.2.1 bt113.2.2.2.1 bt113.2.2.2.2.1 bt113.2.2.2.2.2.1 bt113.2.2.2.2.2.2))) = some r := h
  clear h
  replace H := Option.bind_eq_some_iff.mp H
  obtain ⟨⟨t113, t114, t115, t116, t117, t118, t119⟩, A10, H⟩ := H
  replace H : ((hystart_Grow.f t113 t114 t115 t116 t117 t118 t119 1200).bind fun t121 => (wigwaglaw11_awake.l0 k t121 0 t113 t114 t115 t116 t117 t118 t119)) = some r := H
  have A1 := Aside0.mk A10
  clear A10
  replace H := Option.bind_eq_some_iff.mp H
  obtain ⟨t121, A20, H⟩ := H
  replace H : (wigwaglaw11_awake.l0 k t121 0 t113 t114 t115 t116 t117 t118 t119) = some r := H
  have A2 := Aside0.mk A20
  clear A20
  have H' := Aside0.mk H
  clear H
  go_enter Try.func9, Try.ntmps9
  go_wp2_with (first | ((with_reducible refine gate_callee (f := 14) rfl ?_); refine goesL_ (some 6) rfl rfl Try.func14 (by kernel_rfl) rfl #[.int .u64 10] rfl (by (try simp only [List.map_toArray, List.map_cons, List.map_nil]); first | done | rfl | (simp only [List.length_drop, List.length_take]; rfl)) ?_; (with_reducible refine (hystart_New.calls 10 t113 t114 t115 t116 t117 t118 t119 _ A1.out).mono ?_); rintro e w3 ⟨rfl, hb⟩; refine ⟨_, rfl, ?_⟩; have n0_ := Aside0.mk (below_step (by repeat (first | (with_reducible first | exact HB.out | apply below_alloc | apply pw_below_drewN | apply below_drew1) | exact HB.out)) hb); clear HB; have HB := n0_; clear n0_; (try clear hb); (try clear hb2); (try clear hk); (try clear hi)) | ((with_reducible refine gate_dst (N := 1) rfl ?_); refine box_event ?hg (N := 1) ?hd (cs := #[.int .i64 0, .int .u64 0, .int .u64 0, .int .u64 0, .int .u64 0, .int .u64 0, .int .u64 0]) (t := 25) ?hr ?_; (case hd => rfl); (case hg => rfl); (case hr => first | (go_simp; done) | (go_simp; rfl)); intro gb120 hg w4 hbox hb; have n0_ := Aside0.mk (below_step (by repeat (first | (with_reducible first | exact HB.out | apply below_alloc | apply pw_below_drewN | apply below_drew1) | exact HB.out)) hb); have n1_ := Aside0.mk (hbox); have n2_ := Aside0.mk ((by rw [hg]; exact (below_size (by repeat (first | (with_reducible first | exact HB.out | apply below_alloc | apply pw_below_drewN | apply below_drew1) | exact HB.out))) : w.heap.size ≤ gb120)); have n3_ := Aside0.mk ((by rw [hg]; exact (below_size (by repeat (first | (with_reducible first | exact HB.out | apply below_alloc | apply pw_below_drewN | apply below_drew1) | exact HB.out))) : w.heap.size ≤ gb120)); clear HB; have HB := n0_; have BK120 := n1_; have GW120 := n2_; have GE120 := n3_; clear n0_ n1_ n2_ n3_; clear hb hbox hg; have hcz5_0 : w4.cell? ⟨gb120, 0, none⟩ = some (.int .i64 0) := (blk_cell BK120.out 0).trans rfl; have hcz5_1 : w4.cell? ⟨gb120, 1, none⟩ = some (.int .u64 0) := (blk_cell BK120.out 1).trans rfl; have hcz5_2 : w4.cell? ⟨gb120, 2, none⟩ = some (.int .u64 0) := (blk_cell BK120.out 2).trans rfl; have hcz5_3 : w4.cell? ⟨gb120, 3, none⟩ = some (.int .u64 0) := (blk_cell BK120.out 3).trans rfl; have hcz5_4 : w4.cell? ⟨gb120, 4, none⟩ = some (.int .u64 0) := (blk_cell BK120.out 4).trans rfl; have hcz5_5 : w4.cell? ⟨gb120, 5, none⟩ = some (.int .u64 0) := (blk_cell BK120.out 5).trans rfl; have hcz5_6 : w4.cell? ⟨gb120, 6, none⟩ = some (.int .u64 0) := (blk_cell BK120.out 6).trans rfl; have hfz5_0 := blk_frozen BK120.out 0; have hfz5_1 := blk_frozen BK120.out 1; have hfz5_2 := blk_frozen BK120.out 2; have hfz5_3 := blk_frozen BK120.out 3; have hfz5_4 := blk_frozen BK120.out 4; have hfz5_5 := blk_frozen BK120.out 5; have hfz5_6 := blk_frozen BK120.out 6) | ((with_reducible refine gate_callee (f := 12) rfl ?_); refine goesL_ (some 8) rfl rfl Try.func12 (by kernel_rfl) rfl #[.agg #[.int .i64 t113, .int .u64 t114, .int .u64 t115, .int .u64 t116, .int .u64 t117, .int .u64 t118, .int .u64 t119], .int .u64 1200] rfl (by (try simp only [List.map_toArray, List.map_cons, List.map_nil]); first | done | rfl | (simp only [List.length_drop, List.length_take]; rfl)) ?_; (with_reducible refine (hystart_Grow.calls t113 t114 t115 t116 t117 t118 t119 1200 t121 _ A2.out).mono ?_); rintro e w6 ⟨rfl, hb⟩; refine ⟨_, rfl, ?_⟩; have n0_ := Aside0.mk (blk_below (g := gb120) (o := .cells #[.int .i64 t113, .int .u64 t114, .int .u64 t115, .int .u64 t116, .int .u64 t117, .int .u64 t118, .int .u64 t119] 25 (0, 0)) (by (with_reducible repeat (first | refine blk_drewN ?_ _ | refine blk_drew ?_ | refine blk_alloc ?_ _)); refine blk_put (cs := #[.int .i64 t113, .int .u64 t114, .int .u64 t115, .int .u64 t116, .int .u64 t117, .int .u64 t118, .int .u64 0]) ?_ 6 _ rfl; (with_reducible repeat (first | refine blk_drewN ?_ _ | refine blk_drew ?_ | refine blk_alloc ?_ _)); refine blk_put (cs := #[.int .i64 t113, .int .u64 t114, .int .u64 t115, .int .u64 t116, .int .u64 t117, .int .u64 0, .int .u64 0]) ?_ 5 _ rfl; (with_reducible repeat (first | refine blk_drewN ?_ _ | refine blk_drew ?_ | refine blk_alloc ?_ _)); refine blk_put (cs := #[.int .i64 t113, .int .u64 t114, .int .u64 t115, .int .u64 t116, .int .u64 0, .int .u64 0, .int .u64 0]) ?_ 4 _ rfl; (with_reducible repeat (first | refine blk_drewN ?_ _ | refine blk_drew ?_ | refine blk_alloc ?_ _)); refine blk_put (cs := #[.int .i64 t113, .int .u64 t114, .int .u64 t115, .int .u64 0, .int .u64 0, .int .u64 0, .int .u64 0]) ?_ 3 _ rfl; (with_reducible repeat (first | refine blk_drewN ?_ _ | refine blk_drew ?_ | refine blk_alloc ?_ _)); refine blk_put (cs := #[.int .i64 t113, .int .u64 t114, .int .u64 0, .int .u64 0, .int .u64 0, .int .u64 0, .int .u64 0]) ?_ 2 _ rfl; (with_reducible repeat (first | refine blk_drewN ?_ _ | refine blk_drew ?_ | refine blk_alloc ?_ _)); refine blk_put (cs := #[.int .i64 t113, .int .u64 0, .int .u64 0, .int .u64 0, .int .u64 0, .int .u64 0, .int .u64 0]) ?_ 1 _ rfl; (with_reducible repeat (first | refine blk_drewN ?_ _ | refine blk_drew ?_ | refine blk_alloc ?_ _)); refine blk_put (cs := #[.int .i64 0, .int .u64 0, .int .u64 0, .int .u64 0, .int .u64 0, .int .u64 0, .int .u64 0]) ?_ 0 _ rfl; (with_reducible repeat (first | refine blk_drewN ?_ _ | refine blk_drew ?_ | refine blk_alloc ?_ _)); exact BK120.out) hb); have n1_ := Aside0.mk (below_step (by repeat (first | (with_reducible first | exact HB.out | apply below_alloc | apply pw_below_drewN | apply below_drew1 | refine below_set ?_ GE120.out) | exact HB.out)) hb); clear BK120; clear HB; have BK120 := n0_; have HB := n1_; clear n0_ n1_; (try clear hb); (try clear hb2); (try clear hk); (try clear hi)))
  go_loopg [3] k (fun kq v3 w' => ∃ (x3_1 : Int) (x121000_1 : Int) (x121001_1 : Int) (x121002_1 : Int) (x121003_1 : Int) (x121004_1 : Int) (x121005_1 : Int) (x121006_1 : Int), v3 = .int .i64 x3_1 ∧ Aside0 (wigwaglaw11_awake.l0 kq t121 x3_1 x121000_1 x121001_1 x121002_1 x121003_1 x121004_1 x121005_1 x121006_1 = some r) ∧ Aside0 (kq ≤ k) ∧ Aside0 (w'.heap[gb120]? = some (.cells #[.int .i64 x121000_1, .int .u64 x121001_1, .int .u64 x121002_1, .int .u64 x121003_1, .int .u64 x121004_1, .int .u64 x121005_1, .int .u64 x121006_1] 25 (0, 0))) ∧ Aside0 (Below w.heap.size w w'))
  case atStart => exact ⟨(0), (t113), (t114), (t115), (t116), (t117), (t118), (t119), (by first | rfl | (simp; done) | (simp [*]; done)), H', ⟨Nat.le_refl _⟩, ⟨by (with_reducible repeat (first | refine blk_drewN ?_ _ | refine blk_drew ?_ | refine blk_alloc ?_ _)); exact BK120.out⟩, ⟨by repeat (first | (with_reducible first | exact HB.out | apply below_alloc | apply pw_below_drewN | apply below_drew1 | refine below_set ?_ GE120.out) | exact HB.out)⟩⟩
  case round =>
    clear H'
    try clear c1
    try clear p2
    try clear hcz5_0
    try clear hcz5_1
    try clear hcz5_2
    try clear hcz5_3
    try clear hcz5_4
    try clear hcz5_5
    try clear hcz5_6
    try clear hfz5_0
    try clear hfz5_1
    try clear hfz5_2
    try clear hfz5_3
    try clear hfz5_4
    try clear hfz5_5
    try clear hfz5_6
    obtain ⟨x3_1, x121000_1, x121001_1, x121002_1, x121003_1, x121004_1, x121005_1, x121006_1, rfl, HA, HK1, BK120, HB⟩ := hrel
    cases gk with
    | zero => exact absurd HA.out (by simp [wigwaglaw11_awake.l0])
    | succ k1 =>
      have H := HA.out
      clear HA
      simp only [wigwaglaw11_awake.l0] at H
      by_cases c7 : x3_1 < 16
      · rw [if_pos c7] at H
        have c7b0 : decide (x3_1 < 16) = true := decide_eq_true c7
        clear c7
        have HC8 := Aside0.mk H
        clear H
        go_upto_if 14 with (fail)
        go_cut [4] (fun v4 wc => ∃ (kq : Nat) (x4_7 : Int), v4 = .int .u64 x4_7 ∧ Aside0 (wigwaglaw11_awake.j1 kq t121 x3_1 x4_7 x121000_1 x121001_1 x121002_1 x121003_1 x121004_1 x121005_1 x121006_1 = some r) ∧ Aside0 (kq ≤ k1) ∧ Aside0 (wc.heap[gb120]? = some (.cells #[.int .i64 x121000_1, .int .u64 x121001_1, .int .u64 x121002_1, .int .u64 x121003_1, .int .u64 x121004_1, .int .u64 x121005_1, .int .u64 x121006_1] 25 (0, 0))) ∧ Aside0 (Below w.heap.size w wc))
        case first =>
          have H := HC8.out
          clear HC8
          by_cases c9 : x3_1 ≥ 8
          · rw [if_pos c9] at H
            have c9b0 : decide (8 ≤ x3_1) = true := decide_eq_true c9
            clear c9
            (first | rw [c9b0] | (simp only [i64_w, i32_w]; rw [c9b0]) | skip)
            have H' := Aside0.mk H
            clear H
            go_wp2
            go_meet
            case rel => exact ⟨_, (113), (by first | rfl | (simp; done) | (simp [*]; done)), H', ⟨by have := HK1.out; first | omega | exact Nat.le_refl _⟩, ⟨by (with_reducible repeat (first | refine blk_drewN ?_ _ | refine blk_drew ?_ | refine blk_alloc ?_ _)); exact BK120.out⟩, ⟨by repeat (first | (with_reducible first | exact HB.out | apply below_alloc | apply pw_below_drewN | apply below_drew1 | refine below_set ?_ GE120.out) | exact HB.out)⟩⟩
          · rw [if_neg c9] at H
            have c9b0 : decide (8 ≤ x3_1) = false := decide_eq_false c9
            clear c9
            (first | rw [c9b0] | (simp only [i64_w, i32_w]; rw [c9b0]) | skip)
            have H' := Aside0.mk H
            clear H
            go_wp2
            go_meet
            case rel => exact ⟨_, (100), (by first | rfl | (simp; done) | (simp [*]; done)), H', ⟨by have := HK1.out; first | omega | exact Nat.le_refl _⟩, ⟨by (with_reducible repeat (first | refine blk_drewN ?_ _ | refine blk_drew ?_ | refine blk_alloc ?_ _)); exact BK120.out⟩, ⟨by repeat (first | (with_reducible first | exact HB.out | apply below_alloc | apply pw_below_drewN | apply below_drew1 | refine below_set ?_ GE120.out) | exact HB.out)⟩⟩
        case rest =>
          clear HC8
          try clear c1
          try clear p2
          try clear c7
          try clear c7b0
          try clear c9
          try clear c9b0
          try clear hcz5_0
          try clear hcz5_1
          try clear hcz5_2
          try clear hcz5_3
          try clear hcz5_4
          try clear hcz5_5
          try clear hcz5_6
          try clear hfz5_0
          try clear hfz5_1
          try clear hfz5_2
          try clear hfz5_3
          try clear hfz5_4
          try clear hfz5_5
          try clear hfz5_6
          try clear p2
          obtain ⟨kq, x4_7, rfl, HA, HJ7, BK120, HB⟩ := hcut
          cases kq with
          | zero => exact absurd HA.out (by simp [wigwaglaw11_awake.j1])
          | succ kj7 =>
            have H := HA.out
            clear HA
            simp only [wigwaglaw11_awake.j1] at H
            by_cases c10 : x3_1 ≥ 8
            · rw [if_pos c10] at H
              have c10b0 : decide (8 ≤ x3_1) = true := decide_eq_true c10
              clear c10
              replace H := Option.bind_eq_some_iff.mp H
              obtain ⟨⟨t122, t123, t124, t125, t126, t127, t128⟩, A110, H⟩ := H
              replace H : (wigwaglaw11_awake.l0 kj7 t121 (wrap64 (x3_1 + 1)) t122 t123 t124 t125 t126 t127 t128) = some r := H
              have A11 := Aside0.mk A110
              clear A110
              have H' := Aside0.mk H
              clear H
              have hcz12_0 : wc.cell? ⟨gb120, 0, none⟩ = some (.int .i64 x121000_1) := (blk_cell BK120.out 0).trans rfl
              have hcz12_1 : wc.cell? ⟨gb120, 1, none⟩ = some (.int .u64 x121001_1) := (blk_cell BK120.out 1).trans rfl
              have hcz12_2 : wc.cell? ⟨gb120, 2, none⟩ = some (.int .u64 x121002_1) := (blk_cell BK120.out 2).trans rfl
              have hcz12_3 : wc.cell? ⟨gb120, 3, none⟩ = some (.int .u64 x121003_1) := (blk_cell BK120.out 3).trans rfl
              have hcz12_4 : wc.cell? ⟨gb120, 4, none⟩ = some (.int .u64 x121004_1) := (blk_cell BK120.out 4).trans rfl
              have hcz12_5 : wc.cell? ⟨gb120, 5, none⟩ = some (.int .u64 x121005_1) := (blk_cell BK120.out 5).trans rfl
              have hcz12_6 : wc.cell? ⟨gb120, 6, none⟩ = some (.int .u64 x121006_1) := (blk_cell BK120.out 6).trans rfl
              have hfz12_0 := blk_frozen BK120.out 0
              have hfz12_1 := blk_frozen BK120.out 1
              have hfz12_2 := blk_frozen BK120.out 2
              have hfz12_3 := blk_frozen BK120.out 3
              have hfz12_4 := blk_frozen BK120.out 4
              have hfz12_5 := blk_frozen BK120.out 5
              have hfz12_6 := blk_frozen BK120.out 6
              go_wp2_with (first | ((with_reducible refine gate_callee (f := 10) rfl ?_); refine goesL_ (some 22) rfl rfl Try.func10 (by kernel_rfl) rfl #[.agg #[.int .i64 x121000_1, .int .u64 x121001_1, .int .u64 x121002_1, .int .u64 x121003_1, .int .u64 x121004_1, .int .u64 x121005_1, .int .u64 x121006_1], .int .u64 10, .int .u64 20, .int .u64 x4_7] rfl (by (try simp only [List.map_toArray, List.map_cons, List.map_nil]); first | done | rfl | (simp only [List.length_drop, List.length_take]; rfl)) ?_; (with_reducible refine (hystart_Sample.calls kj7 x121000_1 x121001_1 x121002_1 x121003_1 x121004_1 x121005_1 x121006_1 10 20 x4_7 t122 t123 t124 t125 t126 t127 t128 _ A11.out).mono ?_); rintro e w13 ⟨rfl, hb⟩; refine ⟨_, rfl, ?_⟩; have n0_ := Aside0.mk (blk_below (g := gb120) (o := .cells #[.int .i64 x121000_1, .int .u64 x121001_1, .int .u64 x121002_1, .int .u64 x121003_1, .int .u64 x121004_1, .int .u64 x121005_1, .int .u64 x121006_1] 25 (0, 0)) (by (with_reducible repeat (first | refine blk_drewN ?_ _ | refine blk_drew ?_ | refine blk_alloc ?_ _)); exact BK120.out) hb); have n1_ := Aside0.mk (below_step (by repeat (first | (with_reducible first | exact HB.out | apply below_alloc | apply pw_below_drewN | apply below_drew1 | refine below_set ?_ GE120.out) | exact HB.out)) hb); clear BK120; clear HB; have BK120 := n0_; have HB := n1_; clear n0_ n1_; (try clear hb); (try clear hb2); (try clear hk); (try clear hi); have hcz14_0 : w13.cell? ⟨gb120, 0, none⟩ = some (.int .i64 x121000_1) := (blk_cell BK120.out 0).trans rfl; have hcz14_1 : w13.cell? ⟨gb120, 1, none⟩ = some (.int .u64 x121001_1) := (blk_cell BK120.out 1).trans rfl; have hcz14_2 : w13.cell? ⟨gb120, 2, none⟩ = some (.int .u64 x121002_1) := (blk_cell BK120.out 2).trans rfl; have hcz14_3 : w13.cell? ⟨gb120, 3, none⟩ = some (.int .u64 x121003_1) := (blk_cell BK120.out 3).trans rfl; have hcz14_4 : w13.cell? ⟨gb120, 4, none⟩ = some (.int .u64 x121004_1) := (blk_cell BK120.out 4).trans rfl; have hcz14_5 : w13.cell? ⟨gb120, 5, none⟩ = some (.int .u64 x121005_1) := (blk_cell BK120.out 5).trans rfl; have hcz14_6 : w13.cell? ⟨gb120, 6, none⟩ = some (.int .u64 x121006_1) := (blk_cell BK120.out 6).trans rfl; have hfz14_0 := blk_frozen BK120.out 0; have hfz14_1 := blk_frozen BK120.out 1; have hfz14_2 := blk_frozen BK120.out 2; have hfz14_3 := blk_frozen BK120.out 3; have hfz14_4 := blk_frozen BK120.out 4; have hfz14_5 := blk_frozen BK120.out 5; have hfz14_6 := blk_frozen BK120.out 6))
              go_roundg kj7
              case measure => have := HK1.out; have := HJ7.out; omega
              case rel => exact ⟨(wrap64 (x3_1 + 1)), (t122), (t123), (t124), (t125), (t126), (t127), (t128), (by first | rfl | (simp; done) | (simp [*]; done)), H', ⟨by have := HK1.out; have := HJ7.out; omega⟩, ⟨by (with_reducible repeat (first | refine blk_drewN ?_ _ | refine blk_drew ?_ | refine blk_alloc ?_ _)); refine blk_put (cs := #[.int .i64 t122, .int .u64 t123, .int .u64 t124, .int .u64 t125, .int .u64 t126, .int .u64 t127, .int .u64 x121006_1]) ?_ 6 _ rfl; (with_reducible repeat (first | refine blk_drewN ?_ _ | refine blk_drew ?_ | refine blk_alloc ?_ _)); refine blk_put (cs := #[.int .i64 t122, .int .u64 t123, .int .u64 t124, .int .u64 t125, .int .u64 t126, .int .u64 x121005_1, .int .u64 x121006_1]) ?_ 5 _ rfl; (with_reducible repeat (first | refine blk_drewN ?_ _ | refine blk_drew ?_ | refine blk_alloc ?_ _)); refine blk_put (cs := #[.int .i64 t122, .int .u64 t123, .int .u64 t124, .int .u64 t125, .int .u64 x121004_1, .int .u64 x121005_1, .int .u64 x121006_1]) ?_ 4 _ rfl; (with_reducible repeat (first | refine blk_drewN ?_ _ | refine blk_drew ?_ | refine blk_alloc ?_ _)); refine blk_put (cs := #[.int .i64 t122, .int .u64 t123, .int .u64 t124, .int .u64 x121003_1, .int .u64 x121004_1, .int .u64 x121005_1, .int .u64 x121006_1]) ?_ 3 _ rfl; (with_reducible repeat (first | refine blk_drewN ?_ _ | refine blk_drew ?_ | refine blk_alloc ?_ _)); refine blk_put (cs := #[.int .i64 t122, .int .u64 t123, .int .u64 x121002_1, .int .u64 x121003_1, .int .u64 x121004_1, .int .u64 x121005_1, .int .u64 x121006_1]) ?_ 2 _ rfl; (with_reducible repeat (first | refine blk_drewN ?_ _ | refine blk_drew ?_ | refine blk_alloc ?_ _)); refine blk_put (cs := #[.int .i64 t122, .int .u64 x121001_1, .int .u64 x121002_1, .int .u64 x121003_1, .int .u64 x121004_1, .int .u64 x121005_1, .int .u64 x121006_1]) ?_ 1 _ rfl; (with_reducible repeat (first | refine blk_drewN ?_ _ | refine blk_drew ?_ | refine blk_alloc ?_ _)); refine blk_put (cs := #[.int .i64 x121000_1, .int .u64 x121001_1, .int .u64 x121002_1, .int .u64 x121003_1, .int .u64 x121004_1, .int .u64 x121005_1, .int .u64 x121006_1]) ?_ 0 _ rfl; (with_reducible repeat (first | refine blk_drewN ?_ _ | refine blk_drew ?_ | refine blk_alloc ?_ _)); exact BK120.out⟩, ⟨by repeat (first | (with_reducible first | exact HB.out | apply below_alloc | apply pw_below_drewN | apply below_drew1 | refine below_set ?_ GE120.out) | exact HB.out)⟩⟩
            · rw [if_neg c10] at H
              have c10b0 : decide (8 ≤ x3_1) = false := decide_eq_false c10
              clear c10
              replace H := Option.bind_eq_some_iff.mp H
              obtain ⟨⟨t129, t130, t131, t132, t133, t134, t135⟩, A150, H⟩ := H
              replace H : (wigwaglaw11_awake.l0 kj7 t121 (wrap64 (x3_1 + 1)) t129 t130 t131 t132 t133 t134 t135) = some r := H
              have A15 := Aside0.mk A150
              clear A150
              have H' := Aside0.mk H
              clear H
              have hcz16_0 : wc.cell? ⟨gb120, 0, none⟩ = some (.int .i64 x121000_1) := (blk_cell BK120.out 0).trans rfl
              have hcz16_1 : wc.cell? ⟨gb120, 1, none⟩ = some (.int .u64 x121001_1) := (blk_cell BK120.out 1).trans rfl
              have hcz16_2 : wc.cell? ⟨gb120, 2, none⟩ = some (.int .u64 x121002_1) := (blk_cell BK120.out 2).trans rfl
              have hcz16_3 : wc.cell? ⟨gb120, 3, none⟩ = some (.int .u64 x121003_1) := (blk_cell BK120.out 3).trans rfl
              have hcz16_4 : wc.cell? ⟨gb120, 4, none⟩ = some (.int .u64 x121004_1) := (blk_cell BK120.out 4).trans rfl
              have hcz16_5 : wc.cell? ⟨gb120, 5, none⟩ = some (.int .u64 x121005_1) := (blk_cell BK120.out 5).trans rfl
              have hcz16_6 : wc.cell? ⟨gb120, 6, none⟩ = some (.int .u64 x121006_1) := (blk_cell BK120.out 6).trans rfl
              have hfz16_0 := blk_frozen BK120.out 0
              have hfz16_1 := blk_frozen BK120.out 1
              have hfz16_2 := blk_frozen BK120.out 2
              have hfz16_3 := blk_frozen BK120.out 3
              have hfz16_4 := blk_frozen BK120.out 4
              have hfz16_5 := blk_frozen BK120.out 5
              have hfz16_6 := blk_frozen BK120.out 6
              go_wp2_with (first | ((with_reducible refine gate_callee (f := 10) rfl ?_); refine goesL_ (some 22) rfl rfl Try.func10 (by kernel_rfl) rfl #[.agg #[.int .i64 x121000_1, .int .u64 x121001_1, .int .u64 x121002_1, .int .u64 x121003_1, .int .u64 x121004_1, .int .u64 x121005_1, .int .u64 x121006_1], .int .u64 (IntKind.u64.wrap (x3_1)), .int .u64 20, .int .u64 x4_7] rfl (by (try simp only [List.map_toArray, List.map_cons, List.map_nil]); first | done | rfl | (simp only [List.length_drop, List.length_take]; rfl)) ?_; (with_reducible refine (hystart_Sample.calls kj7 x121000_1 x121001_1 x121002_1 x121003_1 x121004_1 x121005_1 x121006_1 (IntKind.u64.wrap (x3_1)) 20 x4_7 t129 t130 t131 t132 t133 t134 t135 _ A15.out).mono ?_); rintro e w17 ⟨rfl, hb⟩; refine ⟨_, rfl, ?_⟩; have n0_ := Aside0.mk (blk_below (g := gb120) (o := .cells #[.int .i64 x121000_1, .int .u64 x121001_1, .int .u64 x121002_1, .int .u64 x121003_1, .int .u64 x121004_1, .int .u64 x121005_1, .int .u64 x121006_1] 25 (0, 0)) (by (with_reducible repeat (first | refine blk_drewN ?_ _ | refine blk_drew ?_ | refine blk_alloc ?_ _)); exact BK120.out) hb); have n1_ := Aside0.mk (below_step (by repeat (first | (with_reducible first | exact HB.out | apply below_alloc | apply pw_below_drewN | apply below_drew1 | refine below_set ?_ GE120.out) | exact HB.out)) hb); clear BK120; clear HB; have BK120 := n0_; have HB := n1_; clear n0_ n1_; (try clear hb); (try clear hb2); (try clear hk); (try clear hi); have hcz18_0 : w17.cell? ⟨gb120, 0, none⟩ = some (.int .i64 x121000_1) := (blk_cell BK120.out 0).trans rfl; have hcz18_1 : w17.cell? ⟨gb120, 1, none⟩ = some (.int .u64 x121001_1) := (blk_cell BK120.out 1).trans rfl; have hcz18_2 : w17.cell? ⟨gb120, 2, none⟩ = some (.int .u64 x121002_1) := (blk_cell BK120.out 2).trans rfl; have hcz18_3 : w17.cell? ⟨gb120, 3, none⟩ = some (.int .u64 x121003_1) := (blk_cell BK120.out 3).trans rfl; have hcz18_4 : w17.cell? ⟨gb120, 4, none⟩ = some (.int .u64 x121004_1) := (blk_cell BK120.out 4).trans rfl; have hcz18_5 : w17.cell? ⟨gb120, 5, none⟩ = some (.int .u64 x121005_1) := (blk_cell BK120.out 5).trans rfl; have hcz18_6 : w17.cell? ⟨gb120, 6, none⟩ = some (.int .u64 x121006_1) := (blk_cell BK120.out 6).trans rfl; have hfz18_0 := blk_frozen BK120.out 0; have hfz18_1 := blk_frozen BK120.out 1; have hfz18_2 := blk_frozen BK120.out 2; have hfz18_3 := blk_frozen BK120.out 3; have hfz18_4 := blk_frozen BK120.out 4; have hfz18_5 := blk_frozen BK120.out 5; have hfz18_6 := blk_frozen BK120.out 6))
              go_roundg kj7
              case measure => have := HK1.out; have := HJ7.out; omega
              case rel => exact ⟨(wrap64 (x3_1 + 1)), (t129), (t130), (t131), (t132), (t133), (t134), (t135), (by first | rfl | (simp; done) | (simp [*]; done)), H', ⟨by have := HK1.out; have := HJ7.out; omega⟩, ⟨by (with_reducible repeat (first | refine blk_drewN ?_ _ | refine blk_drew ?_ | refine blk_alloc ?_ _)); refine blk_put (cs := #[.int .i64 t129, .int .u64 t130, .int .u64 t131, .int .u64 t132, .int .u64 t133, .int .u64 t134, .int .u64 x121006_1]) ?_ 6 _ rfl; (with_reducible repeat (first | refine blk_drewN ?_ _ | refine blk_drew ?_ | refine blk_alloc ?_ _)); refine blk_put (cs := #[.int .i64 t129, .int .u64 t130, .int .u64 t131, .int .u64 t132, .int .u64 t133, .int .u64 x121005_1, .int .u64 x121006_1]) ?_ 5 _ rfl; (with_reducible repeat (first | refine blk_drewN ?_ _ | refine blk_drew ?_ | refine blk_alloc ?_ _)); refine blk_put (cs := #[.int .i64 t129, .int .u64 t130, .int .u64 t131, .int .u64 t132, .int .u64 x121004_1, .int .u64 x121005_1, .int .u64 x121006_1]) ?_ 4 _ rfl; (with_reducible repeat (first | refine blk_drewN ?_ _ | refine blk_drew ?_ | refine blk_alloc ?_ _)); refine blk_put (cs := #[.int .i64 t129, .int .u64 t130, .int .u64 t131, .int .u64 x121003_1, .int .u64 x121004_1, .int .u64 x121005_1, .int .u64 x121006_1]) ?_ 3 _ rfl; (with_reducible repeat (first | refine blk_drewN ?_ _ | refine blk_drew ?_ | refine blk_alloc ?_ _)); refine blk_put (cs := #[.int .i64 t129, .int .u64 t130, .int .u64 x121002_1, .int .u64 x121003_1, .int .u64 x121004_1, .int .u64 x121005_1, .int .u64 x121006_1]) ?_ 2 _ rfl; (with_reducible repeat (first | refine blk_drewN ?_ _ | refine blk_drew ?_ | refine blk_alloc ?_ _)); refine blk_put (cs := #[.int .i64 t129, .int .u64 x121001_1, .int .u64 x121002_1, .int .u64 x121003_1, .int .u64 x121004_1, .int .u64 x121005_1, .int .u64 x121006_1]) ?_ 1 _ rfl; (with_reducible repeat (first | refine blk_drewN ?_ _ | refine blk_drew ?_ | refine blk_alloc ?_ _)); refine blk_put (cs := #[.int .i64 x121000_1, .int .u64 x121001_1, .int .u64 x121002_1, .int .u64 x121003_1, .int .u64 x121004_1, .int .u64 x121005_1, .int .u64 x121006_1]) ?_ 0 _ rfl; (with_reducible repeat (first | refine blk_drewN ?_ _ | refine blk_drew ?_ | refine blk_alloc ?_ _)); exact BK120.out⟩, ⟨by repeat (first | (with_reducible first | exact HB.out | apply below_alloc | apply pw_below_drewN | apply below_drew1 | refine below_set ?_ GE120.out) | exact HB.out)⟩⟩
      · rw [if_neg c7] at H
        have c7b0 : decide (x3_1 < 16) = false := decide_eq_false c7
        clear c7
        by_cases c19 : t121 = 1200
        · rw [if_pos c19] at H
          have c19b0 : (t121 == 1200) = true := beq_iff_eq.mpr c19
          have c19b1 : (t121 != 1200) = false := bne_eq_false_iff_eq.mpr c19
          clear c19
          by_cases c20 : x121000_1 = 1
          · rw [if_pos c20] at H
            have c20b0 : (x121000_1 == 1) = true := beq_iff_eq.mpr c20
            have c20b1 : (x121000_1 != 1) = false := bne_eq_false_iff_eq.mpr c20
            clear c20
            by_cases c21 : x121005_1 = 113
            · rw [if_pos c21] at H
              have c21b0 : (x121005_1 == 113) = true := beq_iff_eq.mpr c21
              have c21b1 : (x121005_1 != 113) = false := bne_eq_false_iff_eq.mpr c21
              clear c21
              replace H := Option.bind_eq_some_iff.mp H
              obtain ⟨t136, A220, H⟩ := H
              replace H : (if t136 = 300 then ((hystart_Finish.f x121000_1 x121001_1 x121002_1 x121003_1 x121004_1 x121005_1 x121006_1).bind fun bt137 => ((hystart_Grow.f bt137.1 bt137.2.1 bt137.2.2.1 bt137.2.2.2.1 bt137.2.2.2.2.1 bt137.2.2.2.2.2.1 bt137.2.2.2.2.2.2 1200).bind fun t144 => (some (t144 == 0)))) else (some false)) = some r := H
              have A22 := Aside0.mk A220
              clear A220
              by_cases c23 : t136 = 300
              · rw [if_pos c23] at H
                have c23b0 : (t136 == 300) = true := beq_iff_eq.mpr c23
                have c23b1 : (t136 != 300) = false := bne_eq_false_iff_eq.mpr c23
                clear c23
                replace H := Option.bind_eq_some_iff.mp H
                obtain ⟨⟨t137, t138, t139, t140, t141, t142, t143⟩, A240, H⟩ := H
                replace H : ((hystart_Grow.f t137 t138 t139 t140 t141 t142 t143 1200).bind fun t144 => (some (t144 == 0))) = some r := H
                have A24 := Aside0.mk A240
                clear A240
                replace H := Option.bind_eq_some_iff.mp H
                obtain ⟨t144, A250, H⟩ := H
                replace H : (some (t144 == 0)) = some r := H
                have A25 := Aside0.mk A250
                clear A250
                obtain rfl := Option.some.inj H
                have hcz26_0 : wr.cell? ⟨gb120, 0, none⟩ = some (.int .i64 x121000_1) := (blk_cell BK120.out 0).trans rfl
                have hcz26_1 : wr.cell? ⟨gb120, 1, none⟩ = some (.int .u64 x121001_1) := (blk_cell BK120.out 1).trans rfl
                have hcz26_2 : wr.cell? ⟨gb120, 2, none⟩ = some (.int .u64 x121002_1) := (blk_cell BK120.out 2).trans rfl
                have hcz26_3 : wr.cell? ⟨gb120, 3, none⟩ = some (.int .u64 x121003_1) := (blk_cell BK120.out 3).trans rfl
                have hcz26_4 : wr.cell? ⟨gb120, 4, none⟩ = some (.int .u64 x121004_1) := (blk_cell BK120.out 4).trans rfl
                have hcz26_5 : wr.cell? ⟨gb120, 5, none⟩ = some (.int .u64 x121005_1) := (blk_cell BK120.out 5).trans rfl
                have hcz26_6 : wr.cell? ⟨gb120, 6, none⟩ = some (.int .u64 x121006_1) := (blk_cell BK120.out 6).trans rfl
                have hfz26_0 := blk_frozen BK120.out 0
                have hfz26_1 := blk_frozen BK120.out 1
                have hfz26_2 := blk_frozen BK120.out 2
                have hfz26_3 := blk_frozen BK120.out 3
                have hfz26_4 := blk_frozen BK120.out 4
                have hfz26_5 := blk_frozen BK120.out 5
                have hfz26_6 := blk_frozen BK120.out 6
                go_wp2_with (first | (go_at_call 12; (with_reducible refine (hystart_Grow.calls x121000_1 x121001_1 x121002_1 x121003_1 x121004_1 x121005_1 x121006_1 1200 t136 _ A22.out).mono ?_); rintro e w27 ⟨rfl, hb⟩; have n0_ := Aside0.mk (blk_below (g := gb120) (o := .cells #[.int .i64 x121000_1, .int .u64 x121001_1, .int .u64 x121002_1, .int .u64 x121003_1, .int .u64 x121004_1, .int .u64 x121005_1, .int .u64 x121006_1] 25 (0, 0)) (by (with_reducible repeat (first | refine blk_drewN ?_ _ | refine blk_drew ?_ | refine blk_alloc ?_ _)); exact BK120.out) hb); have n1_ := Aside0.mk (below_step (by repeat (first | (with_reducible first | exact HB.out | apply below_alloc | apply pw_below_drewN | apply below_drew1 | refine below_set ?_ GE120.out) | exact HB.out)) hb); clear BK120; clear HB; have BK120 := n0_; have HB := n1_; clear n0_ n1_; (try clear hb); (try clear hb2); (try clear hk); (try clear hi); have hcz28_0 : w27.cell? ⟨gb120, 0, none⟩ = some (.int .i64 x121000_1) := (blk_cell BK120.out 0).trans rfl; have hcz28_1 : w27.cell? ⟨gb120, 1, none⟩ = some (.int .u64 x121001_1) := (blk_cell BK120.out 1).trans rfl; have hcz28_2 : w27.cell? ⟨gb120, 2, none⟩ = some (.int .u64 x121002_1) := (blk_cell BK120.out 2).trans rfl; have hcz28_3 : w27.cell? ⟨gb120, 3, none⟩ = some (.int .u64 x121003_1) := (blk_cell BK120.out 3).trans rfl; have hcz28_4 : w27.cell? ⟨gb120, 4, none⟩ = some (.int .u64 x121004_1) := (blk_cell BK120.out 4).trans rfl; have hcz28_5 : w27.cell? ⟨gb120, 5, none⟩ = some (.int .u64 x121005_1) := (blk_cell BK120.out 5).trans rfl; have hcz28_6 : w27.cell? ⟨gb120, 6, none⟩ = some (.int .u64 x121006_1) := (blk_cell BK120.out 6).trans rfl; have hfz28_0 := blk_frozen BK120.out 0; have hfz28_1 := blk_frozen BK120.out 1; have hfz28_2 := blk_frozen BK120.out 2; have hfz28_3 := blk_frozen BK120.out 3; have hfz28_4 := blk_frozen BK120.out 4; have hfz28_5 := blk_frozen BK120.out 5; have hfz28_6 := blk_frozen BK120.out 6) | (go_at_call 16; (with_reducible refine (hystart_Finish.calls x121000_1 x121001_1 x121002_1 x121003_1 x121004_1 x121005_1 x121006_1 t137 t138 t139 t140 t141 t142 t143 _ A24.out).mono ?_); rintro e w29 ⟨rfl, hb⟩; have n0_ := Aside0.mk (blk_below (g := gb120) (o := .cells #[.int .i64 x121000_1, .int .u64 x121001_1, .int .u64 x121002_1, .int .u64 x121003_1, .int .u64 x121004_1, .int .u64 x121005_1, .int .u64 x121006_1] 25 (0, 0)) (by (with_reducible repeat (first | refine blk_drewN ?_ _ | refine blk_drew ?_ | refine blk_alloc ?_ _)); exact BK120.out) hb); have n1_ := Aside0.mk (below_step (by repeat (first | (with_reducible first | exact HB.out | apply below_alloc | apply pw_below_drewN | apply below_drew1 | refine below_set ?_ GE120.out) | exact HB.out)) hb); clear BK120; clear HB; have BK120 := n0_; have HB := n1_; clear n0_ n1_; (try clear hb); (try clear hb2); (try clear hk); (try clear hi)) | (go_at_call 12; (with_reducible refine (hystart_Grow.calls t137 t138 t139 t140 t141 t142 t143 1200 t144 _ A25.out).mono ?_); rintro e w30 ⟨rfl, hb⟩; have n0_ := Aside0.mk (blk_below (g := gb120) (o := .cells #[.int .i64 x121000_1, .int .u64 x121001_1, .int .u64 x121002_1, .int .u64 x121003_1, .int .u64 x121004_1, .int .u64 x121005_1, .int .u64 x121006_1] 25 (0, 0)) (by (with_reducible repeat (first | refine blk_drewN ?_ _ | refine blk_drew ?_ | refine blk_alloc ?_ _)); exact BK120.out) hb); have n1_ := Aside0.mk (below_step (by repeat (first | (with_reducible first | exact HB.out | apply below_alloc | apply pw_below_drewN | apply below_drew1 | refine below_set ?_ GE120.out) | exact HB.out)) hb); clear BK120; clear HB; have BK120 := n0_; have HB := n1_; clear n0_ n1_; (try clear hb); (try clear hb2); (try clear hk); (try clear hi)))
                go_ret
                exact ⟨by first | rfl | (simp [errW_none, errW_some] <;> rfl) | (simp [*, errW_none, errW_some] <;> rfl), by repeat (first | (with_reducible first | exact HB.out | apply below_alloc | apply pw_below_drewN | apply below_drew1 | refine below_set ?_ GE120.out) | exact HB.out)⟩
              · rw [if_neg c23] at H
                have c23b0 : (t136 == 300) = false := beq_eq_false_iff_ne.mpr c23
                have c23b1 : (t136 != 300) = true := bne_iff_ne.mpr c23
                obtain rfl := Option.some.inj H
                have hcz31_0 : wr.cell? ⟨gb120, 0, none⟩ = some (.int .i64 x121000_1) := (blk_cell BK120.out 0).trans rfl
                have hcz31_1 : wr.cell? ⟨gb120, 1, none⟩ = some (.int .u64 x121001_1) := (blk_cell BK120.out 1).trans rfl
                have hcz31_2 : wr.cell? ⟨gb120, 2, none⟩ = some (.int .u64 x121002_1) := (blk_cell BK120.out 2).trans rfl
                have hcz31_3 : wr.cell? ⟨gb120, 3, none⟩ = some (.int .u64 x121003_1) := (blk_cell BK120.out 3).trans rfl
                have hcz31_4 : wr.cell? ⟨gb120, 4, none⟩ = some (.int .u64 x121004_1) := (blk_cell BK120.out 4).trans rfl
                have hcz31_5 : wr.cell? ⟨gb120, 5, none⟩ = some (.int .u64 x121005_1) := (blk_cell BK120.out 5).trans rfl
                have hcz31_6 : wr.cell? ⟨gb120, 6, none⟩ = some (.int .u64 x121006_1) := (blk_cell BK120.out 6).trans rfl
                have hfz31_0 := blk_frozen BK120.out 0
                have hfz31_1 := blk_frozen BK120.out 1
                have hfz31_2 := blk_frozen BK120.out 2
                have hfz31_3 := blk_frozen BK120.out 3
                have hfz31_4 := blk_frozen BK120.out 4
                have hfz31_5 := blk_frozen BK120.out 5
                have hfz31_6 := blk_frozen BK120.out 6
                go_wp2_with (first | (go_at_call 12; (with_reducible refine (hystart_Grow.calls x121000_1 x121001_1 x121002_1 x121003_1 x121004_1 x121005_1 x121006_1 1200 t136 _ A22.out).mono ?_); rintro e w32 ⟨rfl, hb⟩; have n0_ := Aside0.mk (blk_below (g := gb120) (o := .cells #[.int .i64 x121000_1, .int .u64 x121001_1, .int .u64 x121002_1, .int .u64 x121003_1, .int .u64 x121004_1, .int .u64 x121005_1, .int .u64 x121006_1] 25 (0, 0)) (by (with_reducible repeat (first | refine blk_drewN ?_ _ | refine blk_drew ?_ | refine blk_alloc ?_ _)); exact BK120.out) hb); have n1_ := Aside0.mk (below_step (by repeat (first | (with_reducible first | exact HB.out | apply below_alloc | apply pw_below_drewN | apply below_drew1 | refine below_set ?_ GE120.out) | exact HB.out)) hb); clear BK120; clear HB; have BK120 := n0_; have HB := n1_; clear n0_ n1_; (try clear hb); (try clear hb2); (try clear hk); (try clear hi)))
                go_ret
                exact ⟨by first | rfl | (simp [errW_none, errW_some] <;> rfl) | (simp [*, errW_none, errW_some] <;> rfl), by repeat (first | (with_reducible first | exact HB.out | apply below_alloc | apply pw_below_drewN | apply below_drew1 | refine below_set ?_ GE120.out) | exact HB.out)⟩
            · rw [if_neg c21] at H
              have c21b0 : (x121005_1 == 113) = false := beq_eq_false_iff_ne.mpr c21
              have c21b1 : (x121005_1 != 113) = true := bne_iff_ne.mpr c21
              obtain rfl := Option.some.inj H
              have hcz33_0 : wr.cell? ⟨gb120, 0, none⟩ = some (.int .i64 x121000_1) := (blk_cell BK120.out 0).trans rfl
              have hcz33_1 : wr.cell? ⟨gb120, 1, none⟩ = some (.int .u64 x121001_1) := (blk_cell BK120.out 1).trans rfl
              have hcz33_2 : wr.cell? ⟨gb120, 2, none⟩ = some (.int .u64 x121002_1) := (blk_cell BK120.out 2).trans rfl
              have hcz33_3 : wr.cell? ⟨gb120, 3, none⟩ = some (.int .u64 x121003_1) := (blk_cell BK120.out 3).trans rfl
              have hcz33_4 : wr.cell? ⟨gb120, 4, none⟩ = some (.int .u64 x121004_1) := (blk_cell BK120.out 4).trans rfl
              have hcz33_5 : wr.cell? ⟨gb120, 5, none⟩ = some (.int .u64 x121005_1) := (blk_cell BK120.out 5).trans rfl
              have hcz33_6 : wr.cell? ⟨gb120, 6, none⟩ = some (.int .u64 x121006_1) := (blk_cell BK120.out 6).trans rfl
              have hfz33_0 := blk_frozen BK120.out 0
              have hfz33_1 := blk_frozen BK120.out 1
              have hfz33_2 := blk_frozen BK120.out 2
              have hfz33_3 := blk_frozen BK120.out 3
              have hfz33_4 := blk_frozen BK120.out 4
              have hfz33_5 := blk_frozen BK120.out 5
              have hfz33_6 := blk_frozen BK120.out 6
              go_wp2
              go_ret
              exact ⟨by first | rfl | (simp [errW_none, errW_some] <;> rfl) | (simp [*, errW_none, errW_some] <;> rfl), by repeat (first | (with_reducible first | exact HB.out | apply below_alloc | apply pw_below_drewN | apply below_drew1 | refine below_set ?_ GE120.out) | exact HB.out)⟩
          · rw [if_neg c20] at H
            have c20b0 : (x121000_1 == 1) = false := beq_eq_false_iff_ne.mpr c20
            have c20b1 : (x121000_1 != 1) = true := bne_iff_ne.mpr c20
            obtain rfl := Option.some.inj H
            have hcz34_0 : wr.cell? ⟨gb120, 0, none⟩ = some (.int .i64 x121000_1) := (blk_cell BK120.out 0).trans rfl
            have hcz34_1 : wr.cell? ⟨gb120, 1, none⟩ = some (.int .u64 x121001_1) := (blk_cell BK120.out 1).trans rfl
            have hcz34_2 : wr.cell? ⟨gb120, 2, none⟩ = some (.int .u64 x121002_1) := (blk_cell BK120.out 2).trans rfl
            have hcz34_3 : wr.cell? ⟨gb120, 3, none⟩ = some (.int .u64 x121003_1) := (blk_cell BK120.out 3).trans rfl
            have hcz34_4 : wr.cell? ⟨gb120, 4, none⟩ = some (.int .u64 x121004_1) := (blk_cell BK120.out 4).trans rfl
            have hcz34_5 : wr.cell? ⟨gb120, 5, none⟩ = some (.int .u64 x121005_1) := (blk_cell BK120.out 5).trans rfl
            have hcz34_6 : wr.cell? ⟨gb120, 6, none⟩ = some (.int .u64 x121006_1) := (blk_cell BK120.out 6).trans rfl
            have hfz34_0 := blk_frozen BK120.out 0
            have hfz34_1 := blk_frozen BK120.out 1
            have hfz34_2 := blk_frozen BK120.out 2
            have hfz34_3 := blk_frozen BK120.out 3
            have hfz34_4 := blk_frozen BK120.out 4
            have hfz34_5 := blk_frozen BK120.out 5
            have hfz34_6 := blk_frozen BK120.out 6
            go_wp2
            go_ret
            exact ⟨by first | rfl | (simp [errW_none, errW_some] <;> rfl) | (simp [*, errW_none, errW_some] <;> rfl), by repeat (first | (with_reducible first | exact HB.out | apply below_alloc | apply pw_below_drewN | apply below_drew1 | refine below_set ?_ GE120.out) | exact HB.out)⟩
        · rw [if_neg c19] at H
          have c19b0 : (t121 == 1200) = false := beq_eq_false_iff_ne.mpr c19
          have c19b1 : (t121 != 1200) = true := bne_iff_ne.mpr c19
          obtain rfl := Option.some.inj H
          go_wp2
          go_ret
          exact ⟨by first | rfl | (simp [errW_none, errW_some] <;> rfl) | (simp [*, errW_none, errW_some] <;> rfl), by repeat (first | (with_reducible first | exact HB.out | apply below_alloc | apply pw_below_drewN | apply below_drew1 | refine below_set ?_ GE120.out) | exact HB.out)⟩

end Go.Proofs.Ythclohjlbajclaa.P
