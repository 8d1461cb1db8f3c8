-- Printed for this claim by xprint.py of this session: contracts of this session's own stand in for what the print does not take
import Derived.Test.YtidpokbgdfjbnaaPx0
import Derived.Test.YtidpokbgdfjbnaaPx3
import Derived.Test.YtidpokbgdfjbnaaPx7
namespace Go.Proofs.Ytidpokbgdfjbnaa.P
open Go.RowKit Go.Proofs.YtidpokbgdfjbnaaW.PrintWords Go.Proofs.YtidpokbgdfjbnaaW.PrintLast Go.Proofs.YtidpokbgdfjbnaaW.PrintMore
attribute [local go_sem] max2_int min2_int max_two min_two max_three min_three max_four min_four   -- for this text's walks alone
set_option linter.unusedVariables false
set_option linter.unusedSimpArgs false

/-! ### wigwaglaw08_RttStays: function 5 -/
mutual
def wigwaglaw08_RttStays.j0 : Nat → Int → Int → Bool → Option (Bool)
  | 0, _, _, _ => none
  | k + 1, x0, x1, x5 => (rtt_Update.f k false 0 0 0 0 (IntKind.u64.wrap (x0)) 0 25).bind fun bt172 => (wigwaglaw08_RttStays.l0 k x0 (Int.tmod x1 60) x5 0 bt172.1 bt172.2.1 bt172.2.2.1 bt172.2.2.2.1 bt172.2.2.2.2)
def wigwaglaw08_RttStays.l0 : Nat → Int → Int → Bool → Int → Bool → Int → Int → Int → Int → Option (Bool)
  | 0, _, _, _, _, _, _, _, _, _ => none
  | k + 1, x0, x1, x5, x7, x178000, x178001, x178002, x178003, x178004 => if x7 < x1 then ((rtt_Update.f k x178000 x178001 x178002 x178003 x178004 (IntKind.u64.wrap (x0)) 0 25).bind fun bt178 => (if bt178.2.2.1 = (IntKind.u64.wrap (x0)) then (if bt178.2.1 = (IntKind.u64.wrap (x0)) then (if bt178.2.2.2.1 > (IntKind.u64.wrap (x0)) then (some false) else (if (IntKind.u64.wrap (bt178.2.2.2.1 + 7)) < (IntKind.u64.wrap (x0)) then (some false) else (if bt178.2.2.2.2 > (IntKind.u64.wrap (x0)) then (some false) else (wigwaglaw08_RttStays.l0 k x0 x1 x5 (wrap64 (x7 + 1)) bt178.1 bt178.2.1 bt178.2.2.1 bt178.2.2.2.1 bt178.2.2.2.2)))) else (some false)) else (some false))) else (some x5)
end
def wigwaglaw08_RttStays.f (k : Nat) (a0 : Int) (a1 : Int) : Option (Bool) := (wigwaglaw08_awake.f k).bind fun t171 => (if a1 < 0 then (wigwaglaw08_RttStays.j0 k a0 (wrap64 (-(wrap64 (a1 + 1)))) t171) else (wigwaglaw08_RttStays.j0 k a0 a1 t171))
theorem wigwaglaw08_RttStays.mono_l : ∀ k, (∀ y0 y1 y2, LeO (wigwaglaw08_RttStays.j0 k y0 y1 y2) (wigwaglaw08_RttStays.j0 (k + 1) y0 y1 y2)) ∧ (∀ y0 y1 y2 y3 y4 y5 y6 y7 y8, LeO (wigwaglaw08_RttStays.l0 k y0 y1 y2 y3 y4 y5 y6 y7 y8) (wigwaglaw08_RttStays.l0 (k + 1) y0 y1 y2 y3 y4 y5 y6 y7 y8))
  | 0 => ⟨fun _ _ _ r h => by simp [wigwaglaw08_RttStays.j0] at h, fun _ _ _ _ _ _ _ _ _ r h => by simp [wigwaglaw08_RttStays.l0] at h⟩
  | k + 1 => by
    obtain ⟨ih0, ih1⟩ := wigwaglaw08_RttStays.mono_l k
    refine ⟨?_, ?_⟩
    · intro y0 y1 y2
      unfold wigwaglaw08_RttStays.j0
      repeat' first
      | (with_reducible exact ih0 _ _ _)
      | (with_reducible exact ih1 _ _ _ _ _ _ _ _ _)
      | (with_reducible exact rtt_Update.mono _ _ _ _ _ _ _ _ _)
      | (with_reducible exact wigwaglaw08_awake.mono _)
      | (with_reducible exact LeO.refl _)
      | (with_reducible exact LeO.none _)
      | (with_reducible refine LeO.ite ?_ ?_)
      | (with_reducible refine LeO.bind ?_ (fun _ => ?_))
      | exact ih0 _ _ _
      | exact ih1 _ _ _ _ _ _ _ _ _
      | exact rtt_Update.mono _ _ _ _ _ _ _ _ _
      | exact wigwaglaw08_awake.mono _
      | exact LeO.none _
      | refine LeO.ite ?_ ?_
      | refine LeO.bind ?_ (fun _ => ?_)
    · intro y0 y1 y2 y3 y4 y5 y6 y7 y8
      unfold wigwaglaw08_RttStays.l0
      repeat' first
      | (with_reducible exact ih0 _ _ _)
      | (with_reducible exact ih1 _ _ _ _ _ _ _ _ _)
      | (with_reducible exact rtt_Update.mono _ _ _ _ _ _ _ _ _)
      | (with_reducible exact wigwaglaw08_awake.mono _)
      | (with_reducible exact LeO.refl _)
      | (with_reducible exact LeO.none _)
      | (with_reducible refine LeO.ite ?_ ?_)
      | (with_reducible refine LeO.bind ?_ (fun _ => ?_))
      | exact ih0 _ _ _
      | exact ih1 _ _ _ _ _ _ _ _ _
      | exact rtt_Update.mono _ _ _ _ _ _ _ _ _
      | exact wigwaglaw08_awake.mono _
      | exact LeO.none _
      | refine LeO.ite ?_ ?_
      | refine LeO.bind ?_ (fun _ => ?_)
theorem wigwaglaw08_RttStays.mono : ∀ a0 a1 k, LeO (wigwaglaw08_RttStays.f k a0 a1) (wigwaglaw08_RttStays.f (k + 1) a0 a1) := by
  intro a0 a1 k
  obtain ⟨ih0, ih1⟩ := wigwaglaw08_RttStays.mono_l k
  unfold wigwaglaw08_RttStays.f
  repeat' first
      | (with_reducible exact ih0 _ _ _)
      | (with_reducible exact ih1 _ _ _ _ _ _ _ _ _)
      | (with_reducible exact rtt_Update.mono _ _ _ _ _ _ _ _ _)
      | (with_reducible exact wigwaglaw08_awake.mono _)
      | (with_reducible exact LeO.refl _)
      | (with_reducible exact LeO.none _)
      | (with_reducible refine LeO.ite ?_ ?_)
      | (with_reducible refine LeO.bind ?_ (fun _ => ?_))
      | exact ih0 _ _ _
      | exact ih1 _ _ _ _ _ _ _ _ _
      | exact rtt_Update.mono _ _ _ _ _ _ _ _ _
      | exact wigwaglaw08_awake.mono _
      | exact LeO.none _
      | refine LeO.ite ?_ ?_
      | refine LeO.bind ?_ (fun _ => ?_)
set_option maxHeartbeats 8000000 in
set_option maxRecDepth 100000 in
theorem wigwaglaw08_RttStays.calls (k : Nat) (a0 : Int) (a1 : Int) (r : Bool) (w : World) (h : wigwaglaw08_RttStays.f k a0 a1 = some r) :
    Calls Try.prog 5 #[.int .u32 a0, .int .i64 a1] w fun e w' => e = .returned (.bool r) ∧ Below w.heap.size w w' := by
  have hu24 := Try.underlying24
  have HB := Aside0.mk (Below.refl w.heap.size w)
  have H : ((wigwaglaw08_awake.f k).bind fun t171 => (if a1 < 0 then (wigwaglaw08_RttStays.j0 k a0 (wrap64 (-(wrap64 (a1 + 1)))) t171) else (wigwaglaw08_RttStays.j0 k a0 a1 t171))) = some r := h
  clear h
  replace H := Option.bind_eq_some_iff.mp H
  obtain ⟨t171, A30, H⟩ := H
  replace H : (if a1 < 0 then (wigwaglaw08_RttStays.j0 k a0 (wrap64 (-(wrap64 (a1 + 1)))) t171) else (wigwaglaw08_RttStays.j0 k a0 a1 t171)) = some r := H
  have A3 := Aside0.mk A30
  clear A30
  have HC4 := Aside0.mk H
  clear H
  go_enter Try.func5, Try.ntmps5
  go_upto_if 11 with (first | ((with_reducible refine gate_callee (f := 8) rfl ?_); refine goesL_ (some 9) rfl rfl Try.func8 (by kernel_rfl) rfl #[] rfl (by (try simp only [List.map_toArray, List.map_cons, List.map_nil]); first | done | rfl | (simp only [List.length_drop, List.length_take]; rfl)) ?_; (with_reducible refine (wigwaglaw08_awake.calls k  t171 _ A3.out).mono ?_); rintro e w5 ⟨rfl, hb⟩; refine ⟨_, rfl, ?_⟩; have n0_ := Aside0.mk (below_step (by repeat (first | (with_reducible first | exact HB.out | apply below_alloc | apply pw_below_drewN | apply below_drew1) | exact HB.out)) hb); clear HB; have HB := n0_; clear n0_; (try clear hb); (try clear hb2); (try clear hk); (try clear hi)))
  (try simp only [Act.put, List.setIfInBounds_toArray, List.set_cons_zero, List.set_cons_succ])
  go_cut [1] (fun v1 wc => ∃ (kq : Nat) (x1_3 : Int), v1 = .int .i64 x1_3 ∧ Aside0 (wigwaglaw08_RttStays.j0 kq a0 x1_3 t171 = some r) ∧ Aside0 (kq ≤ k) ∧ Aside0 (Below w.heap.size w wc))
  case first =>
    have H := HC4.out
    clear HC4
    by_cases c6 : a1 < 0
    · rw [if_pos c6] at H
      have c6b0 : decide (a1 < 0) = true := decide_eq_true c6
      clear c6
      (first | rw [c6b0] | (simp only [i64_w, i32_w]; rw [c6b0]) | skip)
      have H' := Aside0.mk H
      clear H
      go_wp2
      go_meet
      case rel => exact ⟨_, (wrap64 (-(wrap64 (a1 + 1)))), (by first | rfl | (simp; done) | (simp [*]; done)), H', ⟨by first | omega | exact Nat.le_refl _⟩, ⟨by repeat (first | (with_reducible first | exact HB.out | apply below_alloc | apply pw_below_drewN | apply below_drew1) | exact HB.out)⟩⟩
    · rw [if_neg c6] at H
      have c6b0 : decide (a1 < 0) = false := decide_eq_false c6
      clear c6
      (first | rw [c6b0] | (simp only [i64_w, i32_w]; rw [c6b0]) | skip)
      have H' := Aside0.mk H
      clear H
      go_wp2
      go_meet
      case rel => exact ⟨_, (a1), (by first | rfl | (simp; done) | (simp [*]; done)), H', ⟨by first | omega | exact Nat.le_refl _⟩, ⟨by repeat (first | (with_reducible first | exact HB.out | apply below_alloc | apply pw_below_drewN | apply below_drew1) | exact HB.out)⟩⟩
  case rest =>
    clear HC4
    try clear p2
    try clear c5
    try clear c6
    try clear c6b0
    try clear p6
    obtain ⟨kq, x1_3, rfl, HA, HJ3, HB⟩ := hcut
    cases kq with
    | zero => exact absurd HA.out (by simp [wigwaglaw08_RttStays.j0])
    | succ kj3 =>
      have H := HA.out
      clear HA
      simp only [wigwaglaw08_RttStays.j0] at H
      replace H := Option.bind_eq_some_iff.mp H
      obtain ⟨⟨t172, t173, t174, t175, t176⟩, A70, H⟩ := H
      replace H : (wigwaglaw08_RttStays.l0 kj3 a0 (Int.tmod x1_3 60) t171 0 t172 t173 t174 t175 t176) = some r := H
      have A7 := Aside0.mk A70
      clear A70
      have H' := Aside0.mk H
      clear H
      go_wp2_with (first | ((with_reducible refine gate_callee (f := 9) rfl ?_); refine goesL_ (some 20) rfl rfl Try.func9 (by kernel_rfl) rfl #[.agg #[.bool false, .int .u64 0, .int .u64 0, .int .u64 0, .int .u64 0], .int .u64 (IntKind.u64.wrap (a0)), .int .u64 0, .int .u64 25] rfl (by (try simp only [List.map_toArray, List.map_cons, List.map_nil]); first | done | rfl | (simp only [List.length_drop, List.length_take]; rfl)) ?_; (with_reducible refine (rtt_Update.calls kj3 false 0 0 0 0 (IntKind.u64.wrap (a0)) 0 25 t172 t173 t174 t175 t176 _ A7.out).mono ?_); rintro e w8 ⟨rfl, hb⟩; refine ⟨_, rfl, ?_⟩; have n0_ := Aside0.mk (below_step (by repeat (first | (with_reducible first | exact HB.out | apply below_alloc | apply pw_below_drewN | apply below_drew1) | exact HB.out)) hb); clear HB; have HB := n0_; clear n0_; (try clear hb); (try clear hb2); (try clear hk); (try clear hi)) | ((with_reducible refine gate_dst (N := 6) rfl ?_); refine box_event ?hg (N := 6) ?hd (cs := #[.bool false, .int .u64 0, .int .u64 0, .int .u64 0, .int .u64 0]) (t := 24) ?hr ?_; (case hd => rfl); (case hg => rfl); (case hr => first | (go_simp; done) | (go_simp; rfl)); intro gb177 hg w9 hbox hb; have n0_ := Aside0.mk (below_step (by repeat (first | (with_reducible first | exact HB.out | apply below_alloc | apply pw_below_drewN | apply below_drew1) | exact HB.out)) hb); have n1_ := Aside0.mk (hbox); have n2_ := Aside0.mk ((by rw [hg]; exact (below_size (by repeat (first | (with_reducible first | exact HB.out | apply below_alloc | apply pw_below_drewN | apply below_drew1) | exact HB.out))) : w.heap.size ≤ gb177)); have n3_ := Aside0.mk ((by rw [hg]; exact (below_size (by repeat (first | (with_reducible first | exact HB.out | apply below_alloc | apply pw_below_drewN | apply below_drew1) | exact HB.out))) : w.heap.size ≤ gb177)); clear HB; have HB := n0_; have BK177 := n1_; have GW177 := n2_; have GE177 := n3_; clear n0_ n1_ n2_ n3_; clear hb hbox hg; have hcz10_0 : w9.cell? ⟨gb177, 0, none⟩ = some (.bool false) := (blk_cell BK177.out 0).trans rfl; have hcz10_1 : w9.cell? ⟨gb177, 1, none⟩ = some (.int .u64 0) := (blk_cell BK177.out 1).trans rfl; have hcz10_2 : w9.cell? ⟨gb177, 2, none⟩ = some (.int .u64 0) := (blk_cell BK177.out 2).trans rfl; have hcz10_3 : w9.cell? ⟨gb177, 3, none⟩ = some (.int .u64 0) := (blk_cell BK177.out 3).trans rfl; have hcz10_4 : w9.cell? ⟨gb177, 4, none⟩ = some (.int .u64 0) := (blk_cell BK177.out 4).trans rfl; have hfz10_0 := blk_frozen BK177.out 0; have hfz10_1 := blk_frozen BK177.out 1; have hfz10_2 := blk_frozen BK177.out 2; have hfz10_3 := blk_frozen BK177.out 3; have hfz10_4 := blk_frozen BK177.out 4))
      go_loopg [7] kj3 (fun kq v7 w' => ∃ (x7_2 : Int) (x178000_2 : Bool) (x178001_2 : Int) (x178002_2 : Int) (x178003_2 : Int) (x178004_2 : Int), v7 = .int .i64 x7_2 ∧ Aside0 (wigwaglaw08_RttStays.l0 kq a0 (Int.tmod x1_3 60) t171 x7_2 x178000_2 x178001_2 x178002_2 x178003_2 x178004_2 = some r) ∧ Aside0 (kq ≤ kj3) ∧ Aside0 (w'.heap[gb177]? = some (.cells #[.bool x178000_2, .int .u64 x178001_2, .int .u64 x178002_2, .int .u64 x178003_2, .int .u64 x178004_2] 24 (0, 0))) ∧ Aside0 (Below w.heap.size w w'))
      case atStart => exact ⟨(0), (t172), (t173), (t174), (t175), (t176), (by first | rfl | (simp; done) | (simp [*]; done)), H', ⟨Nat.le_refl _⟩, ⟨by (with_reducible repeat (first | refine blk_drewN ?_ _ | refine blk_drew ?_ | refine blk_alloc ?_ _)); refine blk_put (cs := #[.bool t172, .int .u64 t173, .int .u64 t174, .int .u64 t175, .int .u64 0]) ?_ 4 _ rfl; (with_reducible repeat (first | refine blk_drewN ?_ _ | refine blk_drew ?_ | refine blk_alloc ?_ _)); refine blk_put (cs := #[.bool t172, .int .u64 t173, .int .u64 t174, .int .u64 0, .int .u64 0]) ?_ 3 _ rfl; (with_reducible repeat (first | refine blk_drewN ?_ _ | refine blk_drew ?_ | refine blk_alloc ?_ _)); refine blk_put (cs := #[.bool t172, .int .u64 t173, .int .u64 0, .int .u64 0, .int .u64 0]) ?_ 2 _ rfl; (with_reducible repeat (first | refine blk_drewN ?_ _ | refine blk_drew ?_ | refine blk_alloc ?_ _)); refine blk_put (cs := #[.bool t172, .int .u64 0, .int .u64 0, .int .u64 0, .int .u64 0]) ?_ 1 _ rfl; (with_reducible repeat (first | refine blk_drewN ?_ _ | refine blk_drew ?_ | refine blk_alloc ?_ _)); refine blk_put (cs := #[.bool false, .int .u64 0, .int .u64 0, .int .u64 0, .int .u64 0]) ?_ 0 _ rfl; (with_reducible repeat (first | refine blk_drewN ?_ _ | refine blk_drew ?_ | refine blk_alloc ?_ _)); exact BK177.out⟩, ⟨by repeat (first | (with_reducible first | exact HB.out | apply below_alloc | apply pw_below_drewN | apply below_drew1 | refine below_set ?_ GE177.out) | exact HB.out)⟩⟩
      case round =>
        clear H'
        try clear p2
        try clear c5
        try clear c6
        try clear c6b0
        try clear p6
        try clear c8
        try clear c9
        try clear hcz10_0
        try clear hcz10_1
        try clear hcz10_2
        try clear hcz10_3
        try clear hcz10_4
        try clear hfz10_0
        try clear hfz10_1
        try clear hfz10_2
        try clear hfz10_3
        try clear hfz10_4
        try clear p2
        try clear p6
        obtain ⟨x7_2, x178000_2, x178001_2, x178002_2, x178003_2, x178004_2, rfl, HA, HK2, BK177, HB⟩ := hrel
        cases gk with
        | zero => exact absurd HA.out (by simp [wigwaglaw08_RttStays.l0])
        | succ k2 =>
          have H := HA.out
          clear HA
          simp only [wigwaglaw08_RttStays.l0] at H
          by_cases c11 : x7_2 < (Int.tmod x1_3 60)
          · rw [if_pos c11] at H
            have c11b0 : decide (x7_2 < (Int.tmod x1_3 60)) = true := decide_eq_true c11
            clear c11
            replace H := Option.bind_eq_some_iff.mp H
            obtain ⟨⟨t178, t179, t180, t181, t182⟩, A120, H⟩ := H
            replace H : (if t180 = (IntKind.u64.wrap (a0)) then (if t179 = (IntKind.u64.wrap (a0)) then (if t181 > (IntKind.u64.wrap (a0)) then (some false) else (if (IntKind.u64.wrap (t181 + 7)) < (IntKind.u64.wrap (a0)) then (some false) else (if t182 > (IntKind.u64.wrap (a0)) then (some false) else (wigwaglaw08_RttStays.l0 k2 a0 (Int.tmod x1_3 60) t171 (wrap64 (x7_2 + 1)) t178 t179 t180 t181 t182)))) else (some false)) else (some false)) = some r := H
            have A12 := Aside0.mk A120
            clear A120
            have HS13 := Aside0.mk H
            clear H
            have hcz14_0 : wr.cell? ⟨gb177, 0, none⟩ = some (.bool x178000_2) := (blk_cell BK177.out 0).trans rfl
            have hcz14_1 : wr.cell? ⟨gb177, 1, none⟩ = some (.int .u64 x178001_2) := (blk_cell BK177.out 1).trans rfl
            have hcz14_2 : wr.cell? ⟨gb177, 2, none⟩ = some (.int .u64 x178002_2) := (blk_cell BK177.out 2).trans rfl
            have hcz14_3 : wr.cell? ⟨gb177, 3, none⟩ = some (.int .u64 x178003_2) := (blk_cell BK177.out 3).trans rfl
            have hcz14_4 : wr.cell? ⟨gb177, 4, none⟩ = some (.int .u64 x178004_2) := (blk_cell BK177.out 4).trans rfl
            have hfz14_0 := blk_frozen BK177.out 0
            have hfz14_1 := blk_frozen BK177.out 1
            have hfz14_2 := blk_frozen BK177.out 2
            have hfz14_3 := blk_frozen BK177.out 3
            have hfz14_4 := blk_frozen BK177.out 4
            go_upto_region 10 with (first | ((with_reducible refine gate_callee (f := 9) rfl ?_); refine goesL_ (some 29) rfl rfl Try.func9 (by kernel_rfl) rfl #[.agg #[.bool x178000_2, .int .u64 x178001_2, .int .u64 x178002_2, .int .u64 x178003_2, .int .u64 x178004_2], .int .u64 (IntKind.u64.wrap (a0)), .int .u64 0, .int .u64 25] rfl (by (try simp only [List.map_toArray, List.map_cons, List.map_nil]); first | done | rfl | (simp only [List.length_drop, List.length_take]; rfl)) ?_; (with_reducible refine (rtt_Update.calls k2 x178000_2 x178001_2 x178002_2 x178003_2 x178004_2 (IntKind.u64.wrap (a0)) 0 25 t178 t179 t180 t181 t182 _ A12.out).mono ?_); rintro e w15 ⟨rfl, hb⟩; refine ⟨_, rfl, ?_⟩; have n0_ := Aside0.mk (blk_below (g := gb177) (o := .cells #[.bool x178000_2, .int .u64 x178001_2, .int .u64 x178002_2, .int .u64 x178003_2, .int .u64 x178004_2] 24 (0, 0)) (by (with_reducible repeat (first | refine blk_drewN ?_ _ | refine blk_drew ?_ | refine blk_alloc ?_ _)); exact BK177.out) hb); have n1_ := Aside0.mk (below_step (by repeat (first | (with_reducible first | exact HB.out | apply below_alloc | apply pw_below_drewN | apply below_drew1 | refine below_set ?_ GE177.out) | exact HB.out)) hb); clear BK177; clear HB; have BK177 := n0_; have HB := n1_; clear n0_ n1_; (try clear hb); (try clear hb2); (try clear hk); (try clear hi)) | ((with_reducible refine gate_dst (N := 8) rfl ?_); refine box_event ?hg (N := 8) ?hd (cs := #[.bool false, .int .u64 0, .int .u64 0, .int .u64 0, .int .u64 0]) (t := 24) ?hr ?_; (case hd => rfl); (case hg => rfl); (case hr => first | (go_simp; done) | (go_simp; rfl)); intro gb183 hg w16 hbox hb; have n0_ := Aside0.mk (blk_below (g := gb177) (o := .cells #[.bool x178000_2, .int .u64 x178001_2, .int .u64 x178002_2, .int .u64 x178003_2, .int .u64 x178004_2] 24 (0, 0)) (by (with_reducible repeat (first | refine blk_drewN ?_ _ | refine blk_drew ?_ | refine blk_alloc ?_ _)); exact BK177.out) hb); have n1_ := Aside0.mk (below_step (by repeat (first | (with_reducible first | exact HB.out | apply below_alloc | apply pw_below_drewN | apply below_drew1 | refine below_set ?_ GE177.out) | exact HB.out)) hb); have n2_ := Aside0.mk (hbox); have n3_ := Aside0.mk ((by rw [hg]; exact (below_size (by repeat (first | (with_reducible first | exact HB.out | apply below_alloc | apply pw_below_drewN | apply below_drew1 | refine below_set ?_ GE177.out) | exact HB.out))) : w.heap.size ≤ gb183)); have n4_ := Aside0.mk ((by rw [hg]; exact (below_size (by repeat (first | (with_reducible first | exact HB.out | apply below_alloc | apply pw_below_drewN | apply below_drew1 | refine below_set ?_ GE177.out) | exact HB.out))) : w.heap.size ≤ gb183)); have n5_ := Aside0.mk ((by rw [hg]; exact Nat.ne_of_lt (blk_lt (g := gb177) (o := .cells #[.bool x178000_2, .int .u64 x178001_2, .int .u64 x178002_2, .int .u64 x178003_2, .int .u64 x178004_2] 24 (0, 0)) (by (with_reducible repeat (first | refine blk_drewN ?_ _ | refine blk_drew ?_ | refine blk_alloc ?_ _)); exact BK177.out)) : gb177 ≠ gb183)); have n6_ := Aside0.mk ((by rw [hg]; exact Nat.ne_of_gt (blk_lt (g := gb177) (o := .cells #[.bool x178000_2, .int .u64 x178001_2, .int .u64 x178002_2, .int .u64 x178003_2, .int .u64 x178004_2] 24 (0, 0)) (by (with_reducible repeat (first | refine blk_drewN ?_ _ | refine blk_drew ?_ | refine blk_alloc ?_ _)); exact BK177.out)) : gb183 ≠ gb177)); clear BK177; clear HB; have BK177 := n0_; have HB := n1_; have BK183 := n2_; have GW183 := n3_; have GE183 := n4_; have NB177_183 := n5_; have NB183_177 := n6_; clear n0_ n1_ n2_ n3_ n4_ n5_ n6_; clear hb hbox hg; have hnb17 := NB183_177.out; have hnc17 := NB177_183.out; have hcz18_0 : w16.cell? ⟨gb183, 0, none⟩ = some (.bool false) := (blk_cell BK183.out 0).trans rfl; have hcz18_1 : w16.cell? ⟨gb183, 1, none⟩ = some (.int .u64 0) := (blk_cell BK183.out 1).trans rfl; have hcz18_2 : w16.cell? ⟨gb183, 2, none⟩ = some (.int .u64 0) := (blk_cell BK183.out 2).trans rfl; have hcz18_3 : w16.cell? ⟨gb183, 3, none⟩ = some (.int .u64 0) := (blk_cell BK183.out 3).trans rfl; have hcz18_4 : w16.cell? ⟨gb183, 4, none⟩ = some (.int .u64 0) := (blk_cell BK183.out 4).trans rfl; have hfz18_0 := blk_frozen BK183.out 0; have hfz18_1 := blk_frozen BK183.out 1; have hfz18_2 := blk_frozen BK183.out 2; have hfz18_3 := blk_frozen BK183.out 3; have hfz18_4 := blk_frozen BK183.out 4))
            (try simp only [Act.put, List.setIfInBounds_toArray, List.set_cons_zero, List.set_cons_succ])
            have H := HS13.out
            clear HS13
            by_cases c19 : t180 = (IntKind.u64.wrap (a0))
            · rw [if_pos c19] at H
              have c19b0 : (t180 == (IntKind.u64.wrap (a0))) = true := beq_iff_eq.mpr c19
              have c19b1 : (t180 != (IntKind.u64.wrap (a0))) = false := bne_eq_false_iff_eq.mpr c19
              clear c19
              by_cases c20 : t179 = (IntKind.u64.wrap (a0))
              · rw [if_pos c20] at H
                have c20b0 : (t179 == (IntKind.u64.wrap (a0))) = true := beq_iff_eq.mpr c20
                have c20b1 : (t179 != (IntKind.u64.wrap (a0))) = false := bne_eq_false_iff_eq.mpr c20
                clear c20
                by_cases c21 : t181 > (IntKind.u64.wrap (a0))
                · rw [if_pos c21] at H
                  have c21b0 : decide ((IntKind.u64.wrap (a0)) < t181) = true := decide_eq_true c21
                  clear c21
                  obtain rfl := Option.some.inj H
                  have hnb22 := NB183_177.out
                  have hnc22 := NB177_183.out
                  have hcz23_0 : w16.cell? ⟨gb183, 0, none⟩ = some (.bool false) := (blk_cell BK183.out 0).trans rfl
                  have hcz23_1 : w16.cell? ⟨gb183, 1, none⟩ = some (.int .u64 0) := (blk_cell BK183.out 1).trans rfl
                  have hcz23_2 : w16.cell? ⟨gb183, 2, none⟩ = some (.int .u64 0) := (blk_cell BK183.out 2).trans rfl
                  have hcz23_3 : w16.cell? ⟨gb183, 3, none⟩ = some (.int .u64 0) := (blk_cell BK183.out 3).trans rfl
                  have hcz23_4 : w16.cell? ⟨gb183, 4, none⟩ = some (.int .u64 0) := (blk_cell BK183.out 4).trans rfl
                  have hfz23_0 := blk_frozen BK183.out 0
                  have hfz23_1 := blk_frozen BK183.out 1
                  have hfz23_2 := blk_frozen BK183.out 2
                  have hfz23_3 := blk_frozen BK183.out 3
                  have hfz23_4 := blk_frozen BK183.out 4
                  go_wp2
                  go_ret
                  exact ⟨by first | rfl | (simp [errW_none, errW_some] <;> rfl) | (simp [*, errW_none, errW_some] <;> rfl), by repeat (first | (with_reducible first | exact HB.out | apply below_alloc | apply pw_below_drewN | apply below_drew1 | refine below_set ?_ GE177.out | refine below_set ?_ GE183.out) | exact HB.out)⟩
                · rw [if_neg c21] at H
                  have c21b0 : decide ((IntKind.u64.wrap (a0)) < t181) = false := decide_eq_false c21
                  clear c21
                  by_cases c24 : (IntKind.u64.wrap (t181 + 7)) < (IntKind.u64.wrap (a0))
                  · rw [if_pos c24] at H
                    have c24b0 : decide ((IntKind.u64.wrap (t181 + 7)) < (IntKind.u64.wrap (a0))) = true := decide_eq_true c24
                    clear c24
                    obtain rfl := Option.some.inj H
                    have hnb25 := NB183_177.out
                    have hnc25 := NB177_183.out
                    have hcz26_0 : w16.cell? ⟨gb183, 0, none⟩ = some (.bool false) := (blk_cell BK183.out 0).trans rfl
                    have hcz26_1 : w16.cell? ⟨gb183, 1, none⟩ = some (.int .u64 0) := (blk_cell BK183.out 1).trans rfl
                    have hcz26_2 : w16.cell? ⟨gb183, 2, none⟩ = some (.int .u64 0) := (blk_cell BK183.out 2).trans rfl
                    have hcz26_3 : w16.cell? ⟨gb183, 3, none⟩ = some (.int .u64 0) := (blk_cell BK183.out 3).trans rfl
                    have hcz26_4 : w16.cell? ⟨gb183, 4, none⟩ = some (.int .u64 0) := (blk_cell BK183.out 4).trans rfl
                    have hfz26_0 := blk_frozen BK183.out 0
                    have hfz26_1 := blk_frozen BK183.out 1
                    have hfz26_2 := blk_frozen BK183.out 2
                    have hfz26_3 := blk_frozen BK183.out 3
                    have hfz26_4 := blk_frozen BK183.out 4
                    go_wp2
                    go_ret
                    exact ⟨by first | rfl | (simp [errW_none, errW_some] <;> rfl) | (simp [*, errW_none, errW_some] <;> rfl), by repeat (first | (with_reducible first | exact HB.out | apply below_alloc | apply pw_below_drewN | apply below_drew1 | refine below_set ?_ GE177.out | refine below_set ?_ GE183.out) | exact HB.out)⟩
                  · rw [if_neg c24] at H
                    have c24b0 : decide ((IntKind.u64.wrap (t181 + 7)) < (IntKind.u64.wrap (a0))) = false := decide_eq_false c24
                    clear c24
                    by_cases c27 : t182 > (IntKind.u64.wrap (a0))
                    · rw [if_pos c27] at H
                      have c27b0 : decide ((IntKind.u64.wrap (a0)) < t182) = true := decide_eq_true c27
                      clear c27
                      obtain rfl := Option.some.inj H
                      have hnb28 := NB183_177.out
                      have hnc28 := NB177_183.out
                      have hcz29_0 : w16.cell? ⟨gb183, 0, none⟩ = some (.bool false) := (blk_cell BK183.out 0).trans rfl
                      have hcz29_1 : w16.cell? ⟨gb183, 1, none⟩ = some (.int .u64 0) := (blk_cell BK183.out 1).trans rfl
                      have hcz29_2 : w16.cell? ⟨gb183, 2, none⟩ = some (.int .u64 0) := (blk_cell BK183.out 2).trans rfl
                      have hcz29_3 : w16.cell? ⟨gb183, 3, none⟩ = some (.int .u64 0) := (blk_cell BK183.out 3).trans rfl
                      have hcz29_4 : w16.cell? ⟨gb183, 4, none⟩ = some (.int .u64 0) := (blk_cell BK183.out 4).trans rfl
                      have hfz29_0 := blk_frozen BK183.out 0
                      have hfz29_1 := blk_frozen BK183.out 1
                      have hfz29_2 := blk_frozen BK183.out 2
                      have hfz29_3 := blk_frozen BK183.out 3
                      have hfz29_4 := blk_frozen BK183.out 4
                      go_wp2
                      go_ret
                      exact ⟨by first | rfl | (simp [errW_none, errW_some] <;> rfl) | (simp [*, errW_none, errW_some] <;> rfl), by repeat (first | (with_reducible first | exact HB.out | apply below_alloc | apply pw_below_drewN | apply below_drew1 | refine below_set ?_ GE177.out | refine below_set ?_ GE183.out) | exact HB.out)⟩
                    · rw [if_neg c27] at H
                      have c27b0 : decide ((IntKind.u64.wrap (a0)) < t182) = false := decide_eq_false c27
                      clear c27
                      have H' := Aside0.mk H
                      clear H
                      have hnb30 := NB183_177.out
                      have hnc30 := NB177_183.out
                      have hcz31_0 : w16.cell? ⟨gb183, 0, none⟩ = some (.bool false) := (blk_cell BK183.out 0).trans rfl
                      have hcz31_1 : w16.cell? ⟨gb183, 1, none⟩ = some (.int .u64 0) := (blk_cell BK183.out 1).trans rfl
                      have hcz31_2 : w16.cell? ⟨gb183, 2, none⟩ = some (.int .u64 0) := (blk_cell BK183.out 2).trans rfl
                      have hcz31_3 : w16.cell? ⟨gb183, 3, none⟩ = some (.int .u64 0) := (blk_cell BK183.out 3).trans rfl
                      have hcz31_4 : w16.cell? ⟨gb183, 4, none⟩ = some (.int .u64 0) := (blk_cell BK183.out 4).trans rfl
                      have hfz31_0 := blk_frozen BK183.out 0
                      have hfz31_1 := blk_frozen BK183.out 1
                      have hfz31_2 := blk_frozen BK183.out 2
                      have hfz31_3 := blk_frozen BK183.out 3
                      have hfz31_4 := blk_frozen BK183.out 4
                      have hcz32_0 : w16.cell? ⟨gb177, 0, none⟩ = some (.bool x178000_2) := (blk_cell BK177.out 0).trans rfl
                      have hcz32_1 : w16.cell? ⟨gb177, 1, none⟩ = some (.int .u64 x178001_2) := (blk_cell BK177.out 1).trans rfl
                      have hcz32_2 : w16.cell? ⟨gb177, 2, none⟩ = some (.int .u64 x178002_2) := (blk_cell BK177.out 2).trans rfl
                      have hcz32_3 : w16.cell? ⟨gb177, 3, none⟩ = some (.int .u64 x178003_2) := (blk_cell BK177.out 3).trans rfl
                      have hcz32_4 : w16.cell? ⟨gb177, 4, none⟩ = some (.int .u64 x178004_2) := (blk_cell BK177.out 4).trans rfl
                      have hfz32_0 := blk_frozen BK177.out 0
                      have hfz32_1 := blk_frozen BK177.out 1
                      have hfz32_2 := blk_frozen BK177.out 2
                      have hfz32_3 := blk_frozen BK177.out 3
                      have hfz32_4 := blk_frozen BK177.out 4
                      go_wp2
                      go_roundg k2
                      case measure => have := HJ3.out; have := HK2.out; omega
                      case rel => exact ⟨(wrap64 (x7_2 + 1)), (t178), (t179), (t180), (t181), (t182), (by first | rfl | (simp; done) | (simp [*]; done)), H', ⟨by have := HJ3.out; have := HK2.out; omega⟩, ⟨by (with_reducible repeat (first | refine blk_drewN ?_ _ | refine blk_drew ?_ | refine blk_alloc ?_ _)); refine blk_put (cs := #[.bool t178, .int .u64 t179, .int .u64 t180, .int .u64 t181, .int .u64 x178004_2]) ?_ 4 _ rfl; (with_reducible repeat (first | refine blk_drewN ?_ _ | refine blk_drew ?_ | refine blk_alloc ?_ _)); refine blk_put (cs := #[.bool t178, .int .u64 t179, .int .u64 t180, .int .u64 x178003_2, .int .u64 x178004_2]) ?_ 3 _ rfl; (with_reducible repeat (first | refine blk_drewN ?_ _ | refine blk_drew ?_ | refine blk_alloc ?_ _)); refine blk_put (cs := #[.bool t178, .int .u64 t179, .int .u64 x178002_2, .int .u64 x178003_2, .int .u64 x178004_2]) ?_ 2 _ rfl; (with_reducible repeat (first | refine blk_drewN ?_ _ | refine blk_drew ?_ | refine blk_alloc ?_ _)); refine blk_put (cs := #[.bool t178, .int .u64 x178001_2, .int .u64 x178002_2, .int .u64 x178003_2, .int .u64 x178004_2]) ?_ 1 _ rfl; (with_reducible repeat (first | refine blk_drewN ?_ _ | refine blk_drew ?_ | refine blk_alloc ?_ _)); refine blk_put (cs := #[.bool x178000_2, .int .u64 x178001_2, .int .u64 x178002_2, .int .u64 x178003_2, .int .u64 x178004_2]) ?_ 0 _ rfl; (with_reducible repeat (first | refine blk_drewN ?_ _ | refine blk_drew ?_ | refine blk_alloc ?_ _)); refine blk_far ?_ NB177_183.out _; (with_reducible repeat (first | refine blk_drewN ?_ _ | refine blk_drew ?_ | refine blk_alloc ?_ _)); refine blk_far ?_ NB177_183.out _; (with_reducible repeat (first | refine blk_drewN ?_ _ | refine blk_drew ?_ | refine blk_alloc ?_ _)); refine blk_far ?_ NB177_183.out _; (with_reducible repeat (first | refine blk_drewN ?_ _ | refine blk_drew ?_ | refine blk_alloc ?_ _)); refine blk_far ?_ NB177_183.out _; (with_reducible repeat (first | refine blk_drewN ?_ _ | refine blk_drew ?_ | refine blk_alloc ?_ _)); refine blk_far ?_ NB177_183.out _; (with_reducible repeat (first | refine blk_drewN ?_ _ | refine blk_drew ?_ | refine blk_alloc ?_ _)); exact BK177.out⟩, ⟨by repeat (first | (with_reducible first | exact HB.out | apply below_alloc | apply pw_below_drewN | apply below_drew1 | refine below_set ?_ GE177.out | refine below_set ?_ GE183.out) | exact HB.out)⟩⟩
              · rw [if_neg c20] at H
                have c20b0 : (t179 == (IntKind.u64.wrap (a0))) = false := beq_eq_false_iff_ne.mpr c20
                have c20b1 : (t179 != (IntKind.u64.wrap (a0))) = true := bne_iff_ne.mpr c20
                obtain rfl := Option.some.inj H
                have hnb33 := NB183_177.out
                have hnc33 := NB177_183.out
                have hcz34_0 : w16.cell? ⟨gb183, 0, none⟩ = some (.bool false) := (blk_cell BK183.out 0).trans rfl
                have hcz34_1 : w16.cell? ⟨gb183, 1, none⟩ = some (.int .u64 0) := (blk_cell BK183.out 1).trans rfl
                have hcz34_2 : w16.cell? ⟨gb183, 2, none⟩ = some (.int .u64 0) := (blk_cell BK183.out 2).trans rfl
                have hcz34_3 : w16.cell? ⟨gb183, 3, none⟩ = some (.int .u64 0) := (blk_cell BK183.out 3).trans rfl
                have hcz34_4 : w16.cell? ⟨gb183, 4, none⟩ = some (.int .u64 0) := (blk_cell BK183.out 4).trans rfl
                have hfz34_0 := blk_frozen BK183.out 0
                have hfz34_1 := blk_frozen BK183.out 1
                have hfz34_2 := blk_frozen BK183.out 2
                have hfz34_3 := blk_frozen BK183.out 3
                have hfz34_4 := blk_frozen BK183.out 4
                go_wp2
                go_ret
                exact ⟨by first | rfl | (simp [errW_none, errW_some] <;> rfl) | (simp [*, errW_none, errW_some] <;> rfl), by repeat (first | (with_reducible first | exact HB.out | apply below_alloc | apply pw_below_drewN | apply below_drew1 | refine below_set ?_ GE177.out | refine below_set ?_ GE183.out) | exact HB.out)⟩
            · rw [if_neg c19] at H
              have c19b0 : (t180 == (IntKind.u64.wrap (a0))) = false := beq_eq_false_iff_ne.mpr c19
              have c19b1 : (t180 != (IntKind.u64.wrap (a0))) = true := bne_iff_ne.mpr c19
              obtain rfl := Option.some.inj H
              have hnb35 := NB183_177.out
              have hnc35 := NB177_183.out
              have hcz36_0 : w16.cell? ⟨gb183, 0, none⟩ = some (.bool false) := (blk_cell BK183.out 0).trans rfl
              have hcz36_1 : w16.cell? ⟨gb183, 1, none⟩ = some (.int .u64 0) := (blk_cell BK183.out 1).trans rfl
              have hcz36_2 : w16.cell? ⟨gb183, 2, none⟩ = some (.int .u64 0) := (blk_cell BK183.out 2).trans rfl
              have hcz36_3 : w16.cell? ⟨gb183, 3, none⟩ = some (.int .u64 0) := (blk_cell BK183.out 3).trans rfl
              have hcz36_4 : w16.cell? ⟨gb183, 4, none⟩ = some (.int .u64 0) := (blk_cell BK183.out 4).trans rfl
              have hfz36_0 := blk_frozen BK183.out 0
              have hfz36_1 := blk_frozen BK183.out 1
              have hfz36_2 := blk_frozen BK183.out 2
              have hfz36_3 := blk_frozen BK183.out 3
              have hfz36_4 := blk_frozen BK183.out 4
              go_wp2
              go_ret
              exact ⟨by first | rfl | (simp [errW_none, errW_some] <;> rfl) | (simp [*, errW_none, errW_some] <;> rfl), by repeat (first | (with_reducible first | exact HB.out | apply below_alloc | apply pw_below_drewN | apply below_drew1 | refine below_set ?_ GE177.out | refine below_set ?_ GE183.out) | exact HB.out)⟩
          · rw [if_neg c11] at H
            have c11b0 : decide (x7_2 < (Int.tmod x1_3 60)) = false := decide_eq_false c11
            clear c11
            obtain rfl := Option.some.inj H
            go_wp2
            go_ret
            exact ⟨by first | rfl | (simp [errW_none, errW_some] <;> rfl) | (simp [*, errW_none, errW_some] <;> rfl), by repeat (first | (with_reducible first | exact HB.out | apply below_alloc | apply pw_below_drewN | apply below_drew1 | refine below_set ?_ GE177.out) | exact HB.out)⟩

/-- THE ONE PURE STATEMENT of wigwaglaw08_RttStays: yours. -/
def wigwaglaw08_RttStays.Pure : Prop := ∀ (a0 : Int) (a1 : Int), (Lit.int .u32 a0).wf = true → (Lit.int .i64 a1).wf = true → ∃ k, wigwaglaw08_RttStays.f k a0 a1 = some true
theorem wigwaglaw08_RttStays.walk (P : wigwaglaw08_RttStays.Pure) (a0 : Int) (a1 : Int) (w : World) (w0 : (Lit.int .u32 a0).wf = true) (w1 : (Lit.int .i64 a1).wf = true) :
    Calls Try.prog 5 #[.int .u32 a0, .int .i64 a1] w fun e w' => e = .returned (.bool true) ∧ Below w.heap.size w w' := by
  obtain ⟨k, h⟩ := P a0 a1 w0 w1
  refine (wigwaglaw08_RttStays.calls k a0 a1 true w h).mono ?_
  rintro e w' ⟨rfl, hd⟩
  exact ⟨rfl, hd⟩

end Go.Proofs.Ytidpokbgdfjbnaa.P
