-- Printed for this claim by xprint.py of this session: contracts of this session's own stand in for what the print does not take
import Derived.Test.YtmajccpifkbdpaaPx0
import Derived.Test.YtmajccpifkbdpaaPx3
import Derived.Test.YtmajccpifkbdpaaPx4
import Derived.Test.YtmajccpifkbdpaaPx5
namespace Go.Proofs.Ytmajccpifkbdpaa.P
open Go.RowKit Go.Proofs.YtmajccpifkbdpaaW.PrintWords Go.Proofs.YtmajccpifkbdpaaW.PrintLast Go.Proofs.YtmajccpifkbdpaaW.PrintMore
attribute [local go_sem] max2_int min2_int max_two min_two max_three min_three max_four min_four   -- for this text's walks alone
set_option linter.unusedVariables false
set_option linter.unusedSimpArgs false

/-! ### wigwaglaw10_RenoHolds: function 5 -/
mutual
def wigwaglaw10_RenoHolds.l0 : Nat → List (S34) → Bool → Int → Int → Int → Int → Int → Option (Bool)
  | 0, _, _, _, _, _, _, _ => none
  | k + 1, x0, x3, x5, x164000, x164001, x164002, x164003 => if x5 < (x0.length : Int) then (wigwaglaw10_RenoHolds.j1 k x0 x3 x5 (decide (x5 < 200)) x164000 x164001 x164002 x164003) else (wigwaglaw10_RenoHolds.j1 k x0 x3 x5 false x164000 x164001 x164002 x164003)
def wigwaglaw10_RenoHolds.j1 : Nat → List (S34) → Bool → Int → Bool → Int → Int → Int → Int → Option (Bool)
  | 0, _, _, _, _, _, _, _, _ => none
  | k + 1, x0, x3, x5, x16, x164000, x164001, x164002, x164003 => if x16 = true then (if 0 ≤ x5 then (if x5 < (x0.length : Int) then (if ((rd_T34 x0 x5).f0) = 1 then ((reno_Ack.f k x164000 x164001 x164002 x164003 ((rd_T34 x0 x5).f1) ((rd_T34 x0 x5).f2) ((rd_T34 x0 x5).f4)).bind fun bt169 => (if bt169.1 < x164000 then (wigwaglaw10_RenoHolds.j2 k x0 x3 x5 true bt169.1 bt169.2.1 bt169.2.2.1 bt169.2.2.2) else (if bt169.2.1 = x164001 then (wigwaglaw10_RenoHolds.j2 k x0 x3 x5 (bt169.2.2.1 != x164002) bt169.1 bt169.2.1 bt169.2.2.1 bt169.2.2.2) else (wigwaglaw10_RenoHolds.j2 k x0 x3 x5 true bt169.1 bt169.2.1 bt169.2.2.1 bt169.2.2.2)))) else (if ((rd_T34 x0 x5).f0) = 2 then ((reno_Loss.f x164000 x164001 x164002 x164003 ((rd_T34 x0 x5).f2) ((rd_T34 x0 x5).f3)).bind fun bt175 => (if bt175.1 > x164000 then (some false) else (if bt175.1 < 2400 then (some false) else (if bt175.1 > 16777216 then (some false) else (if bt175.2.1 < 2400 then (some false) else (if bt175.2.1 > 16777216 then (some false) else (wigwaglaw10_RenoHolds.l0 k x0 x3 (wrap64 (x5 + 1)) bt175.1 bt175.2.1 bt175.2.2.1 bt175.2.2.2))))))) else (if ((rd_T34 x0 x5).f0) = 3 then ((reno_Collapse.f x164000 x164001 x164002 x164003).bind fun bt179 => (if bt179.1 < 2400 then (some false) else (if bt179.1 > 16777216 then (some false) else (if bt179.2.1 < 2400 then (some false) else (if bt179.2.1 > 16777216 then (some false) else (wigwaglaw10_RenoHolds.l0 k x0 x3 (wrap64 (x5 + 1)) bt179.1 bt179.2.1 bt179.2.2.1 bt179.2.2.2)))))) else (if x164000 < 2400 then (some false) else (if x164000 > 16777216 then (some false) else (if x164001 < 2400 then (some false) else (if x164001 > 16777216 then (some false) else (wigwaglaw10_RenoHolds.l0 k x0 x3 (wrap64 (x5 + 1)) x164000 x164001 x164002 x164003)))))))) else (none)) else (none)) else (some x3)
def wigwaglaw10_RenoHolds.j2 : Nat → List (S34) → Bool → Int → Bool → Int → Int → Int → Int → Option (Bool)
  | 0, _, _, _, _, _, _, _, _ => none
  | k + 1, x0, x3, x5, x62, x164000, x164001, x164002, x164003 => if x62 = true then (some false) else (if x164000 < 2400 then (some false) else (if x164000 > 16777216 then (some false) else (if x164001 < 2400 then (some false) else (if x164001 > 16777216 then (some false) else (wigwaglaw10_RenoHolds.l0 k x0 x3 (wrap64 (x5 + 1)) x164000 x164001 x164002 x164003)))))
end
def wigwaglaw10_RenoHolds.f (k : Nat) (l0 : List (S34)) : Option (Bool) := (wigwaglaw10_awake.f k).bind fun t158 => ((reno_New.f).bind fun bt159 => (wigwaglaw10_RenoHolds.l0 k l0 t158 0 bt159.1 bt159.2.1 bt159.2.2.1 bt159.2.2.2))
theorem wigwaglaw10_RenoHolds.mono_l : ∀ k, (∀ y0 y1 y2 y3 y4 y5 y6, LeO (wigwaglaw10_RenoHolds.l0 k y0 y1 y2 y3 y4 y5 y6) (wigwaglaw10_RenoHolds.l0 (k + 1) y0 y1 y2 y3 y4 y5 y6)) ∧ (∀ y0 y1 y2 y3 y4 y5 y6 y7, LeO (wigwaglaw10_RenoHolds.j1 k y0 y1 y2 y3 y4 y5 y6 y7) (wigwaglaw10_RenoHolds.j1 (k + 1) y0 y1 y2 y3 y4 y5 y6 y7)) ∧ (∀ y0 y1 y2 y3 y4 y5 y6 y7, LeO (wigwaglaw10_RenoHolds.j2 k y0 y1 y2 y3 y4 y5 y6 y7) (wigwaglaw10_RenoHolds.j2 (k + 1) y0 y1 y2 y3 y4 y5 y6 y7))
  | 0 => ⟨fun _ _ _ _ _ _ _ r h => by simp [wigwaglaw10_RenoHolds.l0] at h, fun _ _ _ _ _ _ _ _ r h => by simp [wigwaglaw10_RenoHolds.j1] at h, fun _ _ _ _ _ _ _ _ r h => by simp [wigwaglaw10_RenoHolds.j2] at h⟩
  | k + 1 => by
    obtain ⟨ih0, ih1, ih2⟩ := wigwaglaw10_RenoHolds.mono_l k
    refine ⟨?_, ?_, ?_⟩
    · intro y0 y1 y2 y3 y4 y5 y6
      unfold wigwaglaw10_RenoHolds.l0
      repeat' first
      | (with_reducible exact ih0 _ _ _ _ _ _ _)
      | (with_reducible exact ih1 _ _ _ _ _ _ _ _)
      | (with_reducible exact ih2 _ _ _ _ _ _ _ _)
      | (with_reducible exact reno_Ack.mono _ _ _ _ _ _ _ _)
      | (with_reducible exact wigwaglaw10_awake.mono _)
      | (with_reducible exact LeO.refl _)
      | (with_reducible exact LeO.none _)
      | (with_reducible refine LeO.ite ?_ ?_)
      | (with_reducible refine LeO.bind ?_ (fun _ => ?_))
      | exact ih0 _ _ _ _ _ _ _
      | exact ih1 _ _ _ _ _ _ _ _
      | exact ih2 _ _ _ _ _ _ _ _
      | exact reno_Ack.mono _ _ _ _ _ _ _ _
      | exact wigwaglaw10_awake.mono _
      | exact LeO.none _
      | refine LeO.ite ?_ ?_
      | refine LeO.bind ?_ (fun _ => ?_)
    · intro y0 y1 y2 y3 y4 y5 y6 y7
      unfold wigwaglaw10_RenoHolds.j1
      repeat' first
      | (with_reducible exact ih0 _ _ _ _ _ _ _)
      | (with_reducible exact ih1 _ _ _ _ _ _ _ _)
      | (with_reducible exact ih2 _ _ _ _ _ _ _ _)
      | (with_reducible exact reno_Ack.mono _ _ _ _ _ _ _ _)
      | (with_reducible exact wigwaglaw10_awake.mono _)
      | (with_reducible exact LeO.refl _)
      | (with_reducible exact LeO.none _)
      | (with_reducible refine LeO.ite ?_ ?_)
      | (with_reducible refine LeO.bind ?_ (fun _ => ?_))
      | exact ih0 _ _ _ _ _ _ _
      | exact ih1 _ _ _ _ _ _ _ _
      | exact ih2 _ _ _ _ _ _ _ _
      | exact reno_Ack.mono _ _ _ _ _ _ _ _
      | exact wigwaglaw10_awake.mono _
      | exact LeO.none _
      | refine LeO.ite ?_ ?_
      | refine LeO.bind ?_ (fun _ => ?_)
    · intro y0 y1 y2 y3 y4 y5 y6 y7
      unfold wigwaglaw10_RenoHolds.j2
      repeat' first
      | (with_reducible exact ih0 _ _ _ _ _ _ _)
      | (with_reducible exact ih1 _ _ _ _ _ _ _ _)
      | (with_reducible exact ih2 _ _ _ _ _ _ _ _)
      | (with_reducible exact reno_Ack.mono _ _ _ _ _ _ _ _)
      | (with_reducible exact wigwaglaw10_awake.mono _)
      | (with_reducible exact LeO.refl _)
      | (with_reducible exact LeO.none _)
      | (with_reducible refine LeO.ite ?_ ?_)
      | (with_reducible refine LeO.bind ?_ (fun _ => ?_))
      | exact ih0 _ _ _ _ _ _ _
      | exact ih1 _ _ _ _ _ _ _ _
      | exact ih2 _ _ _ _ _ _ _ _
      | exact reno_Ack.mono _ _ _ _ _ _ _ _
      | exact wigwaglaw10_awake.mono _
      | exact LeO.none _
      | refine LeO.ite ?_ ?_
      | refine LeO.bind ?_ (fun _ => ?_)
theorem wigwaglaw10_RenoHolds.mono : ∀ a0 k, LeO (wigwaglaw10_RenoHolds.f k a0) (wigwaglaw10_RenoHolds.f (k + 1) a0) := by
  intro a0 k
  obtain ⟨ih0, ih1, ih2⟩ := wigwaglaw10_RenoHolds.mono_l k
  unfold wigwaglaw10_RenoHolds.f
  repeat' first
      | (with_reducible exact ih0 _ _ _ _ _ _ _)
      | (with_reducible exact ih1 _ _ _ _ _ _ _ _)
      | (with_reducible exact ih2 _ _ _ _ _ _ _ _)
      | (with_reducible exact reno_Ack.mono _ _ _ _ _ _ _ _)
      | (with_reducible exact wigwaglaw10_awake.mono _)
      | (with_reducible exact LeO.refl _)
      | (with_reducible exact LeO.none _)
      | (with_reducible refine LeO.ite ?_ ?_)
      | (with_reducible refine LeO.bind ?_ (fun _ => ?_))
      | exact ih0 _ _ _ _ _ _ _
      | exact ih1 _ _ _ _ _ _ _ _
      | exact ih2 _ _ _ _ _ _ _ _
      | exact reno_Ack.mono _ _ _ _ _ _ _ _
      | exact wigwaglaw10_awake.mono _
      | exact LeO.none _
      | refine LeO.ite ?_ ?_
      | refine LeO.bind ?_ (fun _ => ?_)
def wigwaglaw10_RenoHolds.T9 : Bool × List (List Nat × List Nat) := (true, [([], []), ([], []), ([], []), ([1, 2], [1, 2]), ([3], [3]), ([4], [4]), ([], []), ([], []), ([6, 7], [6, 7]), ([8], [8]), ([9], [9]), ([], []), ([], []), ([11, 12], [11, 12]), ([13], [13]), ([14], [14]), ([0, 5, 10, 15], [0, 5, 10, 15]), ([16, 16, 0, 1, 2, 3, 4, 5, 6, 7, 8, 9, 10, 11, 12, 13, 14, 15, 16], [16])])
def wigwaglaw10_RenoHolds.B9 : List Nat := [0, 0, 0, 6, 14, 30, 0, 0, 192, 448, 960, 0, 0, 6144, 14336, 30720, 65535, 131071]
theorem wigwaglaw10_RenoHolds.tab9 : rtab .any (opsOf Try.f5 9) = wigwaglaw10_RenoHolds.T9 := by kernel_rfl
theorem wigwaglaw10_RenoHolds.bits9 : waitsOk wigwaglaw10_RenoHolds.T9.2 wigwaglaw10_RenoHolds.B9 = true := by kernel_rfl
def wigwaglaw10_RenoHolds.T13 : Bool × List (List Nat × List Nat) := (true, [([], []), ([], []), ([], []), ([1, 2], [1, 2]), ([3], [3]), ([4], [4]), ([], []), ([], []), ([6, 7], [6, 7]), ([8], [8]), ([9], [9]), ([0, 5, 10], [0, 5, 10]), ([11, 11, 0, 1, 2, 3, 4, 5, 6, 7, 8, 9, 10, 11], [11])])
def wigwaglaw10_RenoHolds.B13 : List Nat := [0, 0, 0, 6, 14, 30, 0, 0, 192, 448, 960, 2047, 4095]
theorem wigwaglaw10_RenoHolds.tab13 : rtab .any (opsOf Try.f5 13) = wigwaglaw10_RenoHolds.T13 := by kernel_rfl
theorem wigwaglaw10_RenoHolds.bits13 : waitsOk wigwaglaw10_RenoHolds.T13.2 wigwaglaw10_RenoHolds.B13 = true := by kernel_rfl
set_option maxHeartbeats 8000000 in
set_option maxRecDepth 100000 in
theorem wigwaglaw10_RenoHolds.calls (k : Nat) (A0 : Option Addr) (c0 : Nat) (l0 : List (S34)) (r : Bool) (w : World) (hr0 : Kd.C k34 w A0 l0.length l0) (hc0 : l0.length ≤ c0) (h : wigwaglaw10_RenoHolds.f k l0 = some r) :
    Calls Try.prog 5 #[.slice A0 l0.length c0] w fun e w' => e = .returned (.bool r) ∧ Below w.heap.size w w' := by
  have hu25 := Try.underlying25
  have HR0 := Aside0.mk hr0
  have HC0 := Aside0.mk hc0
  clear hr0 hc0
  have HB := Aside0.mk (Below.refl w.heap.size w)
  have H : ((wigwaglaw10_awake.f k).bind fun t158 => ((reno_New.f).bind fun bt159 => (wigwaglaw10_RenoHolds.l0 k l0 t158 0 bt159.1 bt159.2.1 bt159.2.2.1 bt159.2.2.2))) = some r := h
  clear h
  replace H := Option.bind_eq_some_iff.mp H
  obtain ⟨t158, A20, H⟩ := H
  replace H : ((reno_New.f).bind fun bt159 => (wigwaglaw10_RenoHolds.l0 k l0 t158 0 bt159.1 bt159.2.1 bt159.2.2.1 bt159.2.2.2)) = some r := H
  have A2 := Aside0.mk A20
  clear A20
  replace H := Option.bind_eq_some_iff.mp H
  obtain ⟨⟨t159, t160, t161, t162⟩, A30, H⟩ := H
  replace H : (wigwaglaw10_RenoHolds.l0 k l0 t158 0 t159 t160 t161 t162) = some r := H
  have A3 := Aside0.mk A30
  clear A30
  have H' := Aside0.mk H
  clear H
  go_enter Try.func5, Try.ntmps5
  go_wp2_with (first | ((with_reducible refine gate_callee (f := 10) rfl ?_); refine goesL_ (some 7) rfl rfl Try.func10 (by kernel_rfl) rfl #[] rfl (by (try simp only [List.map_toArray, List.map_cons, List.map_nil]); first | done | rfl | (simp only [List.length_drop, List.length_take]; rfl)) ?_; (with_reducible refine (wigwaglaw10_awake.calls k  t158 _ A2.out).mono ?_); rintro e w4 ⟨rfl, hb⟩; refine ⟨_, rfl, ?_⟩; have n0_ := Aside0.mk (below_step (by repeat (first | (with_reducible first | exact HB.out | apply below_alloc | apply pw_below_drewN | apply below_drew1) | exact HB.out)) hb); clear HB; have HB := n0_; clear n0_; (try clear hb); (try clear hb2); (try clear hk); (try clear hi)) | ((with_reducible refine gate_callee (f := 19) rfl ?_); refine goesL_ (some 8) rfl rfl Try.func19 (by kernel_rfl) rfl #[] rfl (by (try simp only [List.map_toArray, List.map_cons, List.map_nil]); first | done | rfl | (simp only [List.length_drop, List.length_take]; rfl)) ?_; (with_reducible refine (reno_New.calls  t159 t160 t161 t162 _ A3.out).mono ?_); rintro e w5 ⟨rfl, hb⟩; refine ⟨_, rfl, ?_⟩; have n0_ := Aside0.mk (below_step (by repeat (first | (with_reducible first | exact HB.out | apply below_alloc | apply pw_below_drewN | apply below_drew1) | exact HB.out)) hb); clear HB; have HB := n0_; clear n0_; (try clear hb); (try clear hb2); (try clear hk); (try clear hi)) | ((with_reducible refine gate_dst (N := 4) rfl ?_); refine box_event ?hg (N := 4) ?hd (cs := #[.int .u64 0, .int .u64 0, .int .u64 0, .int .u64 0]) (t := 25) ?hr ?_; (case hd => rfl); (case hg => rfl); (case hr => first | (go_simp; done) | (go_simp; rfl)); intro gb163 hg w6 hbox hb; have n0_ := Aside0.mk (below_step (by repeat (first | (with_reducible first | exact HB.out | apply below_alloc | apply pw_below_drewN | apply below_drew1) | exact HB.out)) hb); have n1_ := Aside0.mk (hbox); have n2_ := Aside0.mk ((by rw [hg]; exact (below_size (by repeat (first | (with_reducible first | exact HB.out | apply below_alloc | apply pw_below_drewN | apply below_drew1) | exact HB.out))) : w.heap.size ≤ gb163)); have n3_ := Aside0.mk ((by rw [hg]; exact (below_size (by repeat (first | (with_reducible first | exact HB.out | apply below_alloc | apply pw_below_drewN | apply below_drew1) | exact HB.out))) : w.heap.size ≤ gb163)); clear HB; have HB := n0_; have BK163 := n1_; have GW163 := n2_; have GE163 := n3_; clear n0_ n1_ n2_ n3_; clear hb hbox hg; have hcz7_0 : w6.cell? ⟨gb163, 0, none⟩ = some (.int .u64 0) := (blk_cell BK163.out 0).trans rfl; have hcz7_1 : w6.cell? ⟨gb163, 1, none⟩ = some (.int .u64 0) := (blk_cell BK163.out 1).trans rfl; have hcz7_2 : w6.cell? ⟨gb163, 2, none⟩ = some (.int .u64 0) := (blk_cell BK163.out 2).trans rfl; have hcz7_3 : w6.cell? ⟨gb163, 3, none⟩ = some (.int .u64 0) := (blk_cell BK163.out 3).trans rfl; have hfz7_0 := blk_frozen BK163.out 0; have hfz7_1 := blk_frozen BK163.out 1; have hfz7_2 := blk_frozen BK163.out 2; have hfz7_3 := blk_frozen BK163.out 3))
  go_loopg [5] k (fun kq v5 w' => ∃ (x5_1 : Int) (x164000_1 : Int) (x164001_1 : Int) (x164002_1 : Int) (x164003_1 : Int), v5 = .int .i64 x5_1 ∧ Aside0 (wigwaglaw10_RenoHolds.l0 kq l0 t158 x5_1 x164000_1 x164001_1 x164002_1 x164003_1 = some r) ∧ Aside0 (kq ≤ k) ∧ Aside0 (w'.heap[gb163]? = some (.cells #[.int .u64 x164000_1, .int .u64 x164001_1, .int .u64 x164002_1, .int .u64 x164003_1] 25 (0, 0))) ∧ Aside0 (Below w.heap.size w w'))
  case atStart => exact ⟨(0), (t159), (t160), (t161), (t162), (by first | rfl | (simp; done) | (simp [*]; done)), H', ⟨Nat.le_refl _⟩, ⟨by (with_reducible repeat (first | refine blk_drewN ?_ _ | refine blk_drew ?_ | refine blk_alloc ?_ _)); refine blk_put (cs := #[.int .u64 t159, .int .u64 t160, .int .u64 t161, .int .u64 0]) ?_ 3 _ rfl; (with_reducible repeat (first | refine blk_drewN ?_ _ | refine blk_drew ?_ | refine blk_alloc ?_ _)); refine blk_put (cs := #[.int .u64 t159, .int .u64 t160, .int .u64 0, .int .u64 0]) ?_ 2 _ rfl; (with_reducible repeat (first | refine blk_drewN ?_ _ | refine blk_drew ?_ | refine blk_alloc ?_ _)); refine blk_put (cs := #[.int .u64 t159, .int .u64 0, .int .u64 0, .int .u64 0]) ?_ 1 _ rfl; (with_reducible repeat (first | refine blk_drewN ?_ _ | refine blk_drew ?_ | refine blk_alloc ?_ _)); refine blk_put (cs := #[.int .u64 0, .int .u64 0, .int .u64 0, .int .u64 0]) ?_ 0 _ rfl; (with_reducible repeat (first | refine blk_drewN ?_ _ | refine blk_drew ?_ | refine blk_alloc ?_ _)); exact BK163.out⟩, ⟨by repeat (first | (with_reducible first | exact HB.out | apply below_alloc | apply pw_below_drewN | apply below_drew1 | refine below_set ?_ GE163.out) | exact HB.out)⟩⟩
  case round =>
    clear H'
    try clear c1
    try clear p2
    try clear c5
    try clear hcz7_0
    try clear hcz7_1
    try clear hcz7_2
    try clear hcz7_3
    try clear hfz7_0
    try clear hfz7_1
    try clear hfz7_2
    try clear hfz7_3
    obtain ⟨x5_1, x164000_1, x164001_1, x164002_1, x164003_1, rfl, HA, HK1, BK163, HB⟩ := hrel
    cases gk with
    | zero => exact absurd HA.out (by simp [wigwaglaw10_RenoHolds.l0])
    | succ k1 =>
      have H := HA.out
      clear HA
      simp only [wigwaglaw10_RenoHolds.l0] at H
      have HC8 := Aside0.mk H
      clear H
      go_upto_region 4 with (fail)
      go_cut [16] (fun v16 wc => ∃ (kq : Nat) (x16_7 : Bool), v16 = .bool x16_7 ∧ Aside0 (wigwaglaw10_RenoHolds.j1 kq l0 t158 x5_1 x16_7 x164000_1 x164001_1 x164002_1 x164003_1 = some r) ∧ Aside0 (kq ≤ k1) ∧ Aside0 (wc.heap[gb163]? = some (.cells #[.int .u64 x164000_1, .int .u64 x164001_1, .int .u64 x164002_1, .int .u64 x164003_1] 25 (0, 0))) ∧ Aside0 (Below w.heap.size w wc))
      case first =>
        have H := HC8.out
        clear HC8
        by_cases c9 : x5_1 < (l0.length : Int)
        · rw [if_pos c9] at H
          have c9b0 : decide (x5_1 < (l0.length : Int)) = true := decide_eq_true c9
          clear c9
          (first | rw [c9b0] | (simp only [i64_w, i32_w]; rw [c9b0]) | skip)
          have H' := Aside0.mk H
          clear H
          go_wp2
          go_meet
          case rel => exact ⟨_, (decide (x5_1 < 200)), (by first | rfl | (simp; done) | (simp [*]; done)), H', ⟨by have := HK1.out; first | omega | exact Nat.le_refl _⟩, ⟨by (with_reducible repeat (first | refine blk_drewN ?_ _ | refine blk_drew ?_ | refine blk_alloc ?_ _)); exact BK163.out⟩, ⟨by repeat (first | (with_reducible first | exact HB.out | apply below_alloc | apply pw_below_drewN | apply below_drew1 | refine below_set ?_ GE163.out) | exact HB.out)⟩⟩
        · rw [if_neg c9] at H
          have c9b0 : decide (x5_1 < (l0.length : Int)) = false := decide_eq_false c9
          clear c9
          (first | rw [c9b0] | (simp only [i64_w, i32_w]; rw [c9b0]) | skip)
          have H' := Aside0.mk H
          clear H
          go_wp2
          go_meet
          case rel => exact ⟨_, (false), (by first | rfl | (simp; done) | (simp [*]; done)), H', ⟨by have := HK1.out; first | omega | exact Nat.le_refl _⟩, ⟨by (with_reducible repeat (first | refine blk_drewN ?_ _ | refine blk_drew ?_ | refine blk_alloc ?_ _)); exact BK163.out⟩, ⟨by repeat (first | (with_reducible first | exact HB.out | apply below_alloc | apply pw_below_drewN | apply below_drew1 | refine below_set ?_ GE163.out) | exact HB.out)⟩⟩
      case rest =>
        clear HC8
        try clear c1
        try clear p2
        try clear c5
        try clear c9
        try clear c9b0
        try clear hcz7_0
        try clear hcz7_1
        try clear hcz7_2
        try clear hcz7_3
        try clear hfz7_0
        try clear hfz7_1
        try clear hfz7_2
        try clear hfz7_3
        try clear p2
        obtain ⟨kq, x16_7, rfl, HA, HJ7, BK163, HB⟩ := hcut
        cases kq with
        | zero => exact absurd HA.out (by simp [wigwaglaw10_RenoHolds.j1])
        | succ kj7 =>
          have H := HA.out
          clear HA
          simp only [wigwaglaw10_RenoHolds.j1] at H
          by_cases c10 : x16_7 = true
          · subst c10
            have H1 : (if 0 ≤ x5_1 then (if x5_1 < (l0.length : Int) then (if ((rd_T34 l0 x5_1).f0) = 1 then ((reno_Ack.f kj7 x164000_1 x164001_1 x164002_1 x164003_1 ((rd_T34 l0 x5_1).f1) ((rd_T34 l0 x5_1).f2) ((rd_T34 l0 x5_1).f4)).bind fun bt169 => (if bt169.1 < x164000_1 then (wigwaglaw10_RenoHolds.j2 kj7 l0 t158 x5_1 true bt169.1 bt169.2.1 bt169.2.2.1 bt169.2.2.2) else (if bt169.2.1 = x164001_1 then (wigwaglaw10_RenoHolds.j2 kj7 l0 t158 x5_1 (bt169.2.2.1 != x164002_1) bt169.1 bt169.2.1 bt169.2.2.1 bt169.2.2.2) else (wigwaglaw10_RenoHolds.j2 kj7 l0 t158 x5_1 true bt169.1 bt169.2.1 bt169.2.2.1 bt169.2.2.2)))) else (if ((rd_T34 l0 x5_1).f0) = 2 then ((reno_Loss.f x164000_1 x164001_1 x164002_1 x164003_1 ((rd_T34 l0 x5_1).f2) ((rd_T34 l0 x5_1).f3)).bind fun bt175 => (if bt175.1 > x164000_1 then (some false) else (if bt175.1 < 2400 then (some false) else (if bt175.1 > 16777216 then (some false) else (if bt175.2.1 < 2400 then (some false) else (if bt175.2.1 > 16777216 then (some false) else (wigwaglaw10_RenoHolds.l0 kj7 l0 t158 (wrap64 (x5_1 + 1)) bt175.1 bt175.2.1 bt175.2.2.1 bt175.2.2.2))))))) else (if ((rd_T34 l0 x5_1).f0) = 3 then ((reno_Collapse.f x164000_1 x164001_1 x164002_1 x164003_1).bind fun bt179 => (if bt179.1 < 2400 then (some false) else (if bt179.1 > 16777216 then (some false) else (if bt179.2.1 < 2400 then (some false) else (if bt179.2.1 > 16777216 then (some false) else (wigwaglaw10_RenoHolds.l0 kj7 l0 t158 (wrap64 (x5_1 + 1)) bt179.1 bt179.2.1 bt179.2.2.1 bt179.2.2.2)))))) else (if x164000_1 < 2400 then (some false) else (if x164000_1 > 16777216 then (some false) else (if x164001_1 < 2400 then (some false) else (if x164001_1 > 16777216 then (some false) else (wigwaglaw10_RenoHolds.l0 kj7 l0 t158 (wrap64 (x5_1 + 1)) x164000_1 x164001_1 x164002_1 x164003_1)))))))) else (none)) else (none)) = some r := by rw [if_pos rfl] at H; exact H
            clear H
            have H := H1
            clear H1
            by_cases c11 : 0 ≤ x5_1
            · rw [if_pos c11] at H
              have c11b0 : decide (0 ≤ x5_1) = true := decide_eq_true c11
              clear c11
              by_cases c12 : x5_1 < (l0.length : Int)
              · rw [if_pos c12] at H
                have c12b0 : decide (x5_1 < (l0.length : Int)) = true := decide_eq_true c12
                clear c12
                by_cases c13 : ((rd_T34 l0 x5_1).f0) = 1
                · rw [if_pos c13] at H
                  have c13b0 : (((rd_T34 l0 x5_1).f0) == 1) = true := beq_iff_eq.mpr c13
                  have c13b1 : (((rd_T34 l0 x5_1).f0) != 1) = false := bne_eq_false_iff_eq.mpr c13
                  clear c13
                  replace H := Option.bind_eq_some_iff.mp H
                  obtain ⟨⟨t169, t170, t171, t172⟩, A140, H⟩ := H
                  replace H : (if t169 < x164000_1 then (wigwaglaw10_RenoHolds.j2 kj7 l0 t158 x5_1 true t169 t170 t171 t172) else (if t170 = x164001_1 then (wigwaglaw10_RenoHolds.j2 kj7 l0 t158 x5_1 (t171 != x164002_1) t169 t170 t171 t172) else (wigwaglaw10_RenoHolds.j2 kj7 l0 t158 x5_1 true t169 t170 t171 t172))) = some r := H
                  have A14 := Aside0.mk A140
                  clear A140
                  have HC15 := Aside0.mk H
                  clear H
                  have hcz16_0 : wc.cell? ⟨gb163, 0, none⟩ = some (.int .u64 x164000_1) := (blk_cell BK163.out 0).trans rfl
                  have hcz16_1 : wc.cell? ⟨gb163, 1, none⟩ = some (.int .u64 x164001_1) := (blk_cell BK163.out 1).trans rfl
                  have hcz16_2 : wc.cell? ⟨gb163, 2, none⟩ = some (.int .u64 x164002_1) := (blk_cell BK163.out 2).trans rfl
                  have hcz16_3 : wc.cell? ⟨gb163, 3, none⟩ = some (.int .u64 x164003_1) := (blk_cell BK163.out 3).trans rfl
                  have hfz16_0 := blk_frozen BK163.out 0
                  have hfz16_1 := blk_frozen BK163.out 1
                  have hfz16_2 := blk_frozen BK163.out 2
                  have hfz16_3 := blk_frozen BK163.out 3
                  try go_wp2_with (first | ((with_reducible refine gate_dst (N := 6) rfl ?_); refine box_event ?hg (N := 6) ?hd (cs := #[.int .u64 0, .int .u64 0, .int .u64 0, .int .u64 0]) (t := 25) ?hr ?_; (case hd => rfl); (case hg => rfl); (case hr => first | (go_simp; done) | (go_simp; rfl)); intro gb164 hg w17 hbox hb; have n0_ := Aside0.mk (blk_below (g := gb163) (o := .cells #[.int .u64 x164000_1, .int .u64 x164001_1, .int .u64 x164002_1, .int .u64 x164003_1] 25 (0, 0)) (by (with_reducible repeat (first | refine blk_drewN ?_ _ | refine blk_drew ?_ | refine blk_alloc ?_ _)); exact BK163.out) hb); have n1_ := Aside0.mk (below_step (by repeat (first | (with_reducible first | exact HB.out | apply below_alloc | apply pw_below_drewN | apply below_drew1 | refine below_set ?_ GE163.out) | exact HB.out)) hb); have n2_ := Aside0.mk (hbox); have n3_ := Aside0.mk ((by rw [hg]; exact (below_size (by repeat (first | (with_reducible first | exact HB.out | apply below_alloc | apply pw_below_drewN | apply below_drew1 | refine below_set ?_ GE163.out) | exact HB.out))) : w.heap.size ≤ gb164)); have n4_ := Aside0.mk ((by rw [hg]; exact (below_size (by repeat (first | (with_reducible first | exact HB.out | apply below_alloc | apply pw_below_drewN | apply below_drew1 | refine below_set ?_ GE163.out) | exact HB.out))) : w.heap.size ≤ gb164)); have n5_ := Aside0.mk ((by rw [hg]; exact Nat.ne_of_lt (blk_lt (g := gb163) (o := .cells #[.int .u64 x164000_1, .int .u64 x164001_1, .int .u64 x164002_1, .int .u64 x164003_1] 25 (0, 0)) (by (with_reducible repeat (first | refine blk_drewN ?_ _ | refine blk_drew ?_ | refine blk_alloc ?_ _)); exact BK163.out)) : gb163 ≠ gb164)); have n6_ := Aside0.mk ((by rw [hg]; exact Nat.ne_of_gt (blk_lt (g := gb163) (o := .cells #[.int .u64 x164000_1, .int .u64 x164001_1, .int .u64 x164002_1, .int .u64 x164003_1] 25 (0, 0)) (by (with_reducible repeat (first | refine blk_drewN ?_ _ | refine blk_drew ?_ | refine blk_alloc ?_ _)); exact BK163.out)) : gb164 ≠ gb163)); clear BK163; clear HB; have BK163 := n0_; have HB := n1_; have BK164 := n2_; have GW164 := n3_; have GE164 := n4_; have NB163_164 := n5_; have NB164_163 := n6_; clear n0_ n1_ n2_ n3_ n4_ n5_ n6_; clear hb hbox hg; have hnb18 := NB164_163.out; have hnc18 := NB163_164.out; have hcz19_0 : w17.cell? ⟨gb164, 0, none⟩ = some (.int .u64 0) := (blk_cell BK164.out 0).trans rfl; have hcz19_1 : w17.cell? ⟨gb164, 1, none⟩ = some (.int .u64 0) := (blk_cell BK164.out 1).trans rfl; have hcz19_2 : w17.cell? ⟨gb164, 2, none⟩ = some (.int .u64 0) := (blk_cell BK164.out 2).trans rfl; have hcz19_3 : w17.cell? ⟨gb164, 3, none⟩ = some (.int .u64 0) := (blk_cell BK164.out 3).trans rfl; have hfz19_0 := blk_frozen BK164.out 0; have hfz19_1 := blk_frozen BK164.out 1; have hfz19_2 := blk_frozen BK164.out 2; have hfz19_3 := blk_frozen BK164.out 3; have p165 : 0 ≤ (x5_1 : Int) := of_decide_eq_true (by first | (with_reducible assumption) | assumption); have q165 : x5_1 < (l0.length : Int) := of_decide_eq_true (by first | (with_reducible assumption) | assumption); obtain ⟨ad165, e165, hx165_0, hx165_1, hx165_2, hx165_3, hx165_4⟩ := at_T34 HR0.out x5_1 p165 q165; cases e165; have hn165_0 : ad165.block ≠ gb164 := Nat.ne_of_lt (Nat.lt_of_lt_of_le (by have := World.block_lt_of_cell? _ _ hx165_0; first | rwa [add_block] at this | exact this) GW164.out); have hn165_1 : ad165.block ≠ gb164 := Nat.ne_of_lt (Nat.lt_of_lt_of_le (by have := World.block_lt_of_cell? _ _ hx165_0; first | rwa [add_block] at this | exact this) GW164.out); have hn165_2 : ad165.block ≠ gb164 := Nat.ne_of_lt (Nat.lt_of_lt_of_le (by have := World.block_lt_of_cell? _ _ hx165_0; first | rwa [add_block] at this | exact this) GW164.out); have hn165_3 : ad165.block ≠ gb164 := Nat.ne_of_lt (Nat.lt_of_lt_of_le (by have := World.block_lt_of_cell? _ _ hx165_0; first | rwa [add_block] at this | exact this) GW164.out); replace hx165_0 := (HB.out.cell (World.block_lt_of_cell? w _ hx165_0)).trans hx165_0; replace hx165_1 := (HB.out.cell (World.block_lt_of_cell? w _ hx165_1)).trans hx165_1; replace hx165_2 := (HB.out.cell (World.block_lt_of_cell? w _ hx165_2)).trans hx165_2; replace hx165_3 := (HB.out.cell (World.block_lt_of_cell? w _ hx165_3)).trans hx165_3; replace hx165_4 := (HB.out.cell (World.block_lt_of_cell? w _ hx165_4)).trans hx165_4; replace hx165_0 := (cell_far (p := ⟨gb164, 0, none⟩) (by first | (rw [add_block]; exact hn165_0) | (show (Addr.add _ _).block ≠ _; rw [add_block]; exact hn165_0) | exact hn165_0) (.int .u64 x164000_1)).trans hx165_0; replace hx165_1 := (cell_far (p := ⟨gb164, 0, none⟩) (by first | (rw [add_block]; exact hn165_0) | (show (Addr.add _ _).block ≠ _; rw [add_block]; exact hn165_0) | exact hn165_0) (.int .u64 x164000_1)).trans hx165_1; replace hx165_2 := (cell_far (p := ⟨gb164, 0, none⟩) (by first | (rw [add_block]; exact hn165_0) | (show (Addr.add _ _).block ≠ _; rw [add_block]; exact hn165_0) | exact hn165_0) (.int .u64 x164000_1)).trans hx165_2; replace hx165_3 := (cell_far (p := ⟨gb164, 0, none⟩) (by first | (rw [add_block]; exact hn165_0) | (show (Addr.add _ _).block ≠ _; rw [add_block]; exact hn165_0) | exact hn165_0) (.int .u64 x164000_1)).trans hx165_3; replace hx165_4 := (cell_far (p := ⟨gb164, 0, none⟩) (by first | (rw [add_block]; exact hn165_0) | (show (Addr.add _ _).block ≠ _; rw [add_block]; exact hn165_0) | exact hn165_0) (.int .u64 x164000_1)).trans hx165_4; replace hx165_0 := (cell_far (p := ⟨gb164, 1, none⟩) (by first | (rw [add_block]; exact hn165_1) | (show (Addr.add _ _).block ≠ _; rw [add_block]; exact hn165_1) | exact hn165_1) (.int .u64 x164001_1)).trans hx165_0; replace hx165_1 := (cell_far (p := ⟨gb164, 1, none⟩) (by first | (rw [add_block]; exact hn165_1) | (show (Addr.add _ _).block ≠ _; rw [add_block]; exact hn165_1) | exact hn165_1) (.int .u64 x164001_1)).trans hx165_1; replace hx165_2 := (cell_far (p := ⟨gb164, 1, none⟩) (by first | (rw [add_block]; exact hn165_1) | (show (Addr.add _ _).block ≠ _; rw [add_block]; exact hn165_1) | exact hn165_1) (.int .u64 x164001_1)).trans hx165_2; replace hx165_3 := (cell_far (p := ⟨gb164, 1, none⟩) (by first | (rw [add_block]; exact hn165_1) | (show (Addr.add _ _).block ≠ _; rw [add_block]; exact hn165_1) | exact hn165_1) (.int .u64 x164001_1)).trans hx165_3; replace hx165_4 := (cell_far (p := ⟨gb164, 1, none⟩) (by first | (rw [add_block]; exact hn165_1) | (show (Addr.add _ _).block ≠ _; rw [add_block]; exact hn165_1) | exact hn165_1) (.int .u64 x164001_1)).trans hx165_4; replace hx165_0 := (cell_far (p := ⟨gb164, 2, none⟩) (by first | (rw [add_block]; exact hn165_2) | (show (Addr.add _ _).block ≠ _; rw [add_block]; exact hn165_2) | exact hn165_2) (.int .u64 x164002_1)).trans hx165_0; replace hx165_1 := (cell_far (p := ⟨gb164, 2, none⟩) (by first | (rw [add_block]; exact hn165_2) | (show (Addr.add _ _).block ≠ _; rw [add_block]; exact hn165_2) | exact hn165_2) (.int .u64 x164002_1)).trans hx165_1; replace hx165_2 := (cell_far (p := ⟨gb164, 2, none⟩) (by first | (rw [add_block]; exact hn165_2) | (show (Addr.add _ _).block ≠ _; rw [add_block]; exact hn165_2) | exact hn165_2) (.int .u64 x164002_1)).trans hx165_2; replace hx165_3 := (cell_far (p := ⟨gb164, 2, none⟩) (by first | (rw [add_block]; exact hn165_2) | (show (Addr.add _ _).block ≠ _; rw [add_block]; exact hn165_2) | exact hn165_2) (.int .u64 x164002_1)).trans hx165_3; replace hx165_4 := (cell_far (p := ⟨gb164, 2, none⟩) (by first | (rw [add_block]; exact hn165_2) | (show (Addr.add _ _).block ≠ _; rw [add_block]; exact hn165_2) | exact hn165_2) (.int .u64 x164002_1)).trans hx165_4; replace hx165_0 := (cell_far (p := ⟨gb164, 3, none⟩) (by first | (rw [add_block]; exact hn165_3) | (show (Addr.add _ _).block ≠ _; rw [add_block]; exact hn165_3) | exact hn165_3) (.int .u64 x164003_1)).trans hx165_0; replace hx165_1 := (cell_far (p := ⟨gb164, 3, none⟩) (by first | (rw [add_block]; exact hn165_3) | (show (Addr.add _ _).block ≠ _; rw [add_block]; exact hn165_3) | exact hn165_3) (.int .u64 x164003_1)).trans hx165_1; replace hx165_2 := (cell_far (p := ⟨gb164, 3, none⟩) (by first | (rw [add_block]; exact hn165_3) | (show (Addr.add _ _).block ≠ _; rw [add_block]; exact hn165_3) | exact hn165_3) (.int .u64 x164003_1)).trans hx165_2; replace hx165_3 := (cell_far (p := ⟨gb164, 3, none⟩) (by first | (rw [add_block]; exact hn165_3) | (show (Addr.add _ _).block ≠ _; rw [add_block]; exact hn165_3) | exact hn165_3) (.int .u64 x164003_1)).trans hx165_3; replace hx165_4 := (cell_far (p := ⟨gb164, 3, none⟩) (by first | (rw [add_block]; exact hn165_3) | (show (Addr.add _ _).block ≠ _; rw [add_block]; exact hn165_3) | exact hn165_3) (.int .u64 x164003_1)).trans hx165_4; clear hn165_0; clear hn165_1; clear hn165_2; clear hn165_3; replace p165 := eq_true p165; replace q165 := eq_true q165))
                  have n0_ : Aside0 (((((w17.setCell ⟨gb164, 0, none⟩ (.int .u64 x164000_1)).setCell ⟨gb164, 1, none⟩ (.int .u64 x164001_1)).setCell ⟨gb164, 2, none⟩ (.int .u64 x164002_1)).setCell ⟨gb164, 3, none⟩ (.int .u64 x164003_1)).heap[gb163]? = some (.cells #[.int .u64 x164000_1, .int .u64 x164001_1, .int .u64 x164002_1, .int .u64 x164003_1] 25 (0, 0))) := ⟨by (with_reducible repeat (first | refine blk_drewN ?_ _ | refine blk_drew ?_ | refine blk_alloc ?_ _)); refine blk_far ?_ NB163_164.out _; (with_reducible repeat (first | refine blk_drewN ?_ _ | refine blk_drew ?_ | refine blk_alloc ?_ _)); refine blk_far ?_ NB163_164.out _; (with_reducible repeat (first | refine blk_drewN ?_ _ | refine blk_drew ?_ | refine blk_alloc ?_ _)); refine blk_far ?_ NB163_164.out _; (with_reducible repeat (first | refine blk_drewN ?_ _ | refine blk_drew ?_ | refine blk_alloc ?_ _)); refine blk_far ?_ NB163_164.out _; (with_reducible repeat (first | refine blk_drewN ?_ _ | refine blk_drew ?_ | refine blk_alloc ?_ _)); exact BK163.out⟩
                  have n1_ : Aside0 (((((w17.setCell ⟨gb164, 0, none⟩ (.int .u64 x164000_1)).setCell ⟨gb164, 1, none⟩ (.int .u64 x164001_1)).setCell ⟨gb164, 2, none⟩ (.int .u64 x164002_1)).setCell ⟨gb164, 3, none⟩ (.int .u64 x164003_1)).heap[gb164]? = some (.cells #[.int .u64 x164000_1, .int .u64 x164001_1, .int .u64 x164002_1, .int .u64 x164003_1] 25 (0, 0))) := ⟨by (with_reducible repeat (first | refine blk_drewN ?_ _ | refine blk_drew ?_ | refine blk_alloc ?_ _)); refine blk_put (cs := #[.int .u64 x164000_1, .int .u64 x164001_1, .int .u64 x164002_1, .int .u64 0]) ?_ 3 _ rfl; (with_reducible repeat (first | refine blk_drewN ?_ _ | refine blk_drew ?_ | refine blk_alloc ?_ _)); refine blk_put (cs := #[.int .u64 x164000_1, .int .u64 x164001_1, .int .u64 0, .int .u64 0]) ?_ 2 _ rfl; (with_reducible repeat (first | refine blk_drewN ?_ _ | refine blk_drew ?_ | refine blk_alloc ?_ _)); refine blk_put (cs := #[.int .u64 x164000_1, .int .u64 0, .int .u64 0, .int .u64 0]) ?_ 1 _ rfl; (with_reducible repeat (first | refine blk_drewN ?_ _ | refine blk_drew ?_ | refine blk_alloc ?_ _)); refine blk_put (cs := #[.int .u64 0, .int .u64 0, .int .u64 0, .int .u64 0]) ?_ 0 _ rfl; (with_reducible repeat (first | refine blk_drewN ?_ _ | refine blk_drew ?_ | refine blk_alloc ?_ _)); exact BK164.out⟩
                  have n2_ : Aside0 (Below w.heap.size w ((((w17.setCell ⟨gb164, 0, none⟩ (.int .u64 x164000_1)).setCell ⟨gb164, 1, none⟩ (.int .u64 x164001_1)).setCell ⟨gb164, 2, none⟩ (.int .u64 x164002_1)).setCell ⟨gb164, 3, none⟩ (.int .u64 x164003_1))) := ⟨by repeat (first | (with_reducible first | exact HB.out | apply below_alloc | apply pw_below_drewN | apply below_drew1 | refine below_set ?_ GE163.out | refine below_set ?_ GE164.out) | exact HB.out)⟩
                  (try clear BK163)
                  (try clear BK164)
                  (try clear HB)
                  generalize ((((w17.setCell ⟨gb164, 0, none⟩ (.int .u64 x164000_1)).setCell ⟨gb164, 1, none⟩ (.int .u64 x164001_1)).setCell ⟨gb164, 2, none⟩ (.int .u64 x164002_1)).setCell ⟨gb164, 3, none⟩ (.int .u64 x164003_1)) = w20 at n0_ n1_ n2_ ⊢
                  have BK163 := n0_
                  have BK164 := n1_
                  have HB := n2_
                  clear n0_ n1_ n2_
                  have n0_ := Aside0.mk (blk_drew BK163.out)
                  have n1_ := Aside0.mk (blk_drew BK164.out)
                  have n2_ := Aside0.mk (below_drew1 HB.out)
                  clear BK163
                  clear BK164
                  clear HB
                  have BK163 := n0_
                  have BK164 := n1_
                  have HB := n2_
                  clear n0_ n1_ n2_
                  have p166 : 0 ≤ (x5_1 : Int) := of_decide_eq_true (by first | (with_reducible assumption) | assumption)
                  have q166 : x5_1 < (l0.length : Int) := of_decide_eq_true (by first | (with_reducible assumption) | assumption)
                  obtain ⟨ad166, e166, hx166_0, hx166_1, hx166_2, hx166_3, hx166_4⟩ := at_T34 HR0.out x5_1 p166 q166
                  have hw166_4 := hx166_4
                  have hw166_3 := hx166_3
                  have hw166_2 := hx166_2
                  have hw166_1 := hx166_1
                  have hw166_0 := hx166_0
                  obtain rfl : ad165 = ad166 := (by injection e166)
                  replace hx166_0 := (HB.out.cell (World.block_lt_of_cell? w _ hx166_0)).trans hx166_0
                  replace hx166_1 := (HB.out.cell (World.block_lt_of_cell? w _ hx166_1)).trans hx166_1
                  replace hx166_2 := (HB.out.cell (World.block_lt_of_cell? w _ hx166_2)).trans hx166_2
                  replace hx166_3 := (HB.out.cell (World.block_lt_of_cell? w _ hx166_3)).trans hx166_3
                  replace hx166_4 := (HB.out.cell (World.block_lt_of_cell? w _ hx166_4)).trans hx166_4
                  replace p166 := eq_true p166
                  replace q166 := eq_true q166
                  have p167 : 0 ≤ (x5_1 : Int) := of_decide_eq_true (by first | (with_reducible assumption) | assumption)
                  have q167 : x5_1 < (l0.length : Int) := of_decide_eq_true (by first | (with_reducible assumption) | assumption)
                  obtain ⟨ad167, e167, hx167_0, hx167_1, hx167_2, hx167_3, hx167_4⟩ := at_T34 HR0.out x5_1 p167 q167
                  have hw167_4 := hx167_4
                  have hw167_3 := hx167_3
                  have hw167_2 := hx167_2
                  have hw167_1 := hx167_1
                  have hw167_0 := hx167_0
                  obtain rfl : ad165 = ad167 := (by injection e167)
                  replace hx167_0 := (HB.out.cell (World.block_lt_of_cell? w _ hx167_0)).trans hx167_0
                  replace hx167_1 := (HB.out.cell (World.block_lt_of_cell? w _ hx167_1)).trans hx167_1
                  replace hx167_2 := (HB.out.cell (World.block_lt_of_cell? w _ hx167_2)).trans hx167_2
                  replace hx167_3 := (HB.out.cell (World.block_lt_of_cell? w _ hx167_3)).trans hx167_3
                  replace hx167_4 := (HB.out.cell (World.block_lt_of_cell? w _ hx167_4)).trans hx167_4
                  replace p167 := eq_true p167
                  replace q167 := eq_true q167
                  have p168 : 0 ≤ (x5_1 : Int) := of_decide_eq_true (by first | (with_reducible assumption) | assumption)
                  have q168 : x5_1 < (l0.length : Int) := of_decide_eq_true (by first | (with_reducible assumption) | assumption)
                  obtain ⟨ad168, e168, hx168_0, hx168_1, hx168_2, hx168_3, hx168_4⟩ := at_T34 HR0.out x5_1 p168 q168
                  have hw168_4 := hx168_4
                  have hw168_3 := hx168_3
                  have hw168_2 := hx168_2
                  have hw168_1 := hx168_1
                  have hw168_0 := hx168_0
                  obtain rfl : ad165 = ad168 := (by injection e168)
                  replace hx168_0 := (HB.out.cell (World.block_lt_of_cell? w _ hx168_0)).trans hx168_0
                  replace hx168_1 := (HB.out.cell (World.block_lt_of_cell? w _ hx168_1)).trans hx168_1
                  replace hx168_2 := (HB.out.cell (World.block_lt_of_cell? w _ hx168_2)).trans hx168_2
                  replace hx168_3 := (HB.out.cell (World.block_lt_of_cell? w _ hx168_3)).trans hx168_3
                  replace hx168_4 := (HB.out.cell (World.block_lt_of_cell? w _ hx168_4)).trans hx168_4
                  replace p168 := eq_true p168
                  replace q168 := eq_true q168
                  refine start_ (n := 18) (S := fun w' => w'.cell? ⟨gb163, 0, none⟩ = some (.int .u64 x164000_1) ∧ w'.cell? ⟨gb163, 1, none⟩ = some (.int .u64 x164001_1) ∧ w'.cell? ⟨gb163, 2, none⟩ = some (.int .u64 x164002_1) ∧ w'.cell? ⟨gb163, 3, none⟩ = some (.int .u64 x164003_1) ∧ w'.cell? (ad165.add ((x5_1).toNat * 5)) = some (.int .i64 ((rd_T34 l0 x5_1).f0)) ∧ w'.cell? ⟨(ad165.add ((x5_1).toNat * 5)).block, (ad165.add ((x5_1).toNat * 5)).off + 1, none⟩ = some (.int .u64 ((rd_T34 l0 x5_1).f1)) ∧ w'.cell? ⟨(ad165.add ((x5_1).toNat * 5)).block, (ad165.add ((x5_1).toNat * 5)).off + 2, none⟩ = some (.int .u64 ((rd_T34 l0 x5_1).f2)) ∧ w'.cell? ⟨(ad165.add ((x5_1).toNat * 5)).block, (ad165.add ((x5_1).toNat * 5)).off + 3, none⟩ = some (.int .u64 ((rd_T34 l0 x5_1).f3)) ∧ w'.cell? ⟨(ad165.add ((x5_1).toNat * 5)).block, (ad165.add ((x5_1).toNat * 5)).off + 4, none⟩ = some (.bool ((rd_T34 l0 x5_1).f4)) ∧ w'.cell? (ad165.add ((x5_1).toNat * 5)) = some (.int .i64 ((rd_T34 l0 x5_1).f0)) ∧ w'.cell? ⟨(ad165.add ((x5_1).toNat * 5)).block, (ad165.add ((x5_1).toNat * 5)).off + 1, none⟩ = some (.int .u64 ((rd_T34 l0 x5_1).f1)) ∧ w'.cell? ⟨(ad165.add ((x5_1).toNat * 5)).block, (ad165.add ((x5_1).toNat * 5)).off + 2, none⟩ = some (.int .u64 ((rd_T34 l0 x5_1).f2)) ∧ w'.cell? ⟨(ad165.add ((x5_1).toNat * 5)).block, (ad165.add ((x5_1).toNat * 5)).off + 3, none⟩ = some (.int .u64 ((rd_T34 l0 x5_1).f3)) ∧ w'.cell? ⟨(ad165.add ((x5_1).toNat * 5)).block, (ad165.add ((x5_1).toNat * 5)).off + 4, none⟩ = some (.bool ((rd_T34 l0 x5_1).f4)) ∧ w'.cell? (ad165.add ((x5_1).toNat * 5)) = some (.int .i64 ((rd_T34 l0 x5_1).f0)) ∧ w'.cell? ⟨(ad165.add ((x5_1).toNat * 5)).block, (ad165.add ((x5_1).toNat * 5)).off + 1, none⟩ = some (.int .u64 ((rd_T34 l0 x5_1).f1)) ∧ w'.cell? ⟨(ad165.add ((x5_1).toNat * 5)).block, (ad165.add ((x5_1).toNat * 5)).off + 2, none⟩ = some (.int .u64 ((rd_T34 l0 x5_1).f2)) ∧ w'.cell? ⟨(ad165.add ((x5_1).toNat * 5)).block, (ad165.add ((x5_1).toNat * 5)).off + 3, none⟩ = some (.int .u64 ((rd_T34 l0 x5_1).f3)) ∧ w'.cell? ⟨(ad165.add ((x5_1).toNat * 5)).block, (ad165.add ((x5_1).toNat * 5)).off + 4, none⟩ = some (.bool ((rd_T34 l0 x5_1).f4))) (ds := [17]) #[false, false, false, false, false, false, false, false, false, false, false, false, false, false, false, false, false, false] (by kernel_rfl) rfl rfl ⟨(blk_cell BK163.out 0).trans rfl, (blk_cell BK163.out 1).trans rfl, (blk_cell BK163.out 2).trans rfl, (blk_cell BK163.out 3).trans rfl, ((HB.out.cell (World.block_lt_of_cell? w _ hw166_0)).trans hw166_0), ((HB.out.cell (World.block_lt_of_cell? w _ hw166_1)).trans hw166_1), ((HB.out.cell (World.block_lt_of_cell? w _ hw166_2)).trans hw166_2), ((HB.out.cell (World.block_lt_of_cell? w _ hw166_3)).trans hw166_3), ((HB.out.cell (World.block_lt_of_cell? w _ hw166_4)).trans hw166_4), ((HB.out.cell (World.block_lt_of_cell? w _ hw167_0)).trans hw167_0), ((HB.out.cell (World.block_lt_of_cell? w _ hw167_1)).trans hw167_1), ((HB.out.cell (World.block_lt_of_cell? w _ hw167_2)).trans hw167_2), ((HB.out.cell (World.block_lt_of_cell? w _ hw167_3)).trans hw167_3), ((HB.out.cell (World.block_lt_of_cell? w _ hw167_4)).trans hw167_4), ((HB.out.cell (World.block_lt_of_cell? w _ hw168_0)).trans hw168_0), ((HB.out.cell (World.block_lt_of_cell? w _ hw168_1)).trans hw168_1), ((HB.out.cell (World.block_lt_of_cell? w _ hw168_2)).trans hw168_2), ((HB.out.cell (World.block_lt_of_cell? w _ hw168_3)).trans hw168_3), ((HB.out.cell (World.block_lt_of_cell? w _ hw168_4)).trans hw168_4)⟩ (fun hHeld => ?_); refine with_tabW wigwaglaw10_RenoHolds.tab9 wigwaglaw10_RenoHolds.bits9 (fun HT_ HW_ => ?_)
                  generalize w20.drew = w21 at BK163 BK164 HB hx166_0 hx166_1 hx166_2 hx166_3 hx166_4 hx167_0 hx167_1 hx167_2 hx167_3 hx167_4 hx168_0 hx168_1 hx168_2 hx168_3 hx168_4 hHeld ⊢
                  refine pure_ (i := 1) (N := some 28) (v := ?_) (a' := ?_) #[false, true, false, false, false, false, false, false, false, false, false, false, false, false, false, false, false, false] rfl rfl (any_of HT_.out (by kernel_rfl)) (fun _ _ _ h => h) (Or.inl ⟨by rfl, ?_⟩) ?_ ?_
                  rotate_left
                  · intro w'
                    go_simp
                    with_reducible rfl
                  rotate_left
                  · simp only [Act.put, List.setIfInBounds_toArray, List.set_cons_zero, List.set_cons_succ, i64_w, i32_w]
                    rfl
                  refine pure_ (i := 2) (N := some 29) (v := ?_) (a' := ?_) #[false, true, true, false, false, false, false, false, false, false, false, false, false, false, false, false, false, false] rfl rfl (any_of HT_.out (by kernel_rfl)) (fun _ _ _ h => h) (Or.inl ⟨by rfl, ?_⟩) ?_ ?_
                  rotate_left
                  · intro w'
                    go_simp
                    with_reducible rfl
                  rotate_left
                  · simp only [Act.put, List.setIfInBounds_toArray, List.set_cons_zero, List.set_cons_succ, i64_w, i32_w]
                    rfl
                  refine pure_ (i := 3) (N := some 30) (v := ?_) (a' := ?_) #[false, true, true, true, false, false, false, false, false, false, false, false, false, false, false, false, false, false] rfl rfl (any_of HT_.out (by kernel_rfl)) (fun _ _ _ h => h) (Or.inl ⟨by rfl, ?_⟩) ?_ ?_
                  rotate_left
                  · intro w'
                    go_simp
                    with_reducible rfl
                  rotate_left
                  · simp only [Act.put, List.setIfInBounds_toArray, List.set_cons_zero, List.set_cons_succ, i64_w, i32_w]
                    rfl
                  refine pure_ (i := 4) (N := some 31) (v := ?_) (a' := ?_) #[false, true, true, true, true, false, false, false, false, false, false, false, false, false, false, false, false, false] rfl rfl (any_of HT_.out (by kernel_rfl)) (fun _ _ _ h => h) (Or.inl ⟨by rfl, ?_⟩) ?_ ?_
                  rotate_left
                  · intro w'
                    go_simp
                    with_reducible rfl
                  rotate_left
                  · simp only [Act.put, List.setIfInBounds_toArray, List.set_cons_zero, List.set_cons_succ, i64_w, i32_w]
                    rfl
                  refine pure_ (i := 6) (N := some 33) (v := ?_) (a' := ?_) #[false, true, true, true, true, false, true, false, false, false, false, false, false, false, false, false, false, false] rfl rfl (any_of HT_.out (by kernel_rfl)) (fun _ _ _ h => h) (Or.inl ⟨by rfl, ?_⟩) ?_ ?_
                  rotate_left
                  · intro w'
                    go_simp
                    with_reducible rfl
                  rotate_left
                  · simp only [Act.put, List.setIfInBounds_toArray, List.set_cons_zero, List.set_cons_succ, i64_w, i32_w]
                    rfl
                  refine pure_ (i := 7) (N := some 34) (v := ?_) (a' := ?_) #[false, true, true, true, true, false, true, true, false, false, false, false, false, false, false, false, false, false] rfl rfl (any_of HT_.out (by kernel_rfl)) (fun _ _ _ h => h) (Or.inl ⟨by rfl, ?_⟩) ?_ ?_
                  rotate_left
                  · intro w'
                    go_simp
                    with_reducible rfl
                  rotate_left
                  · simp only [Act.put, List.setIfInBounds_toArray, List.set_cons_zero, List.set_cons_succ, i64_w, i32_w]
                    rfl
                  refine pure_ (i := 8) (N := some 35) (v := ?_) (a' := ?_) #[false, true, true, true, true, false, true, true, true, false, false, false, false, false, false, false, false, false] rfl rfl (any_of HT_.out (by kernel_rfl)) (fun _ _ _ h => h) (Or.inl ⟨by rfl, ?_⟩) ?_ ?_
                  rotate_left
                  · intro w'
                    go_simp
                    with_reducible rfl
                  rotate_left
                  · simp only [Act.put, List.setIfInBounds_toArray, List.set_cons_zero, List.set_cons_succ, i64_w, i32_w]
                    rfl
                  refine pure_ (i := 9) (N := some 36) (v := ?_) (a' := ?_) #[false, true, true, true, true, false, true, true, true, true, false, false, false, false, false, false, false, false] rfl rfl (any_of HT_.out (by kernel_rfl)) (fun _ _ _ h => h) (Or.inl ⟨by rfl, ?_⟩) ?_ ?_
                  rotate_left
                  · intro w'
                    go_simp
                    with_reducible rfl
                  rotate_left
                  · simp only [Act.put, List.setIfInBounds_toArray, List.set_cons_zero, List.set_cons_succ, i64_w, i32_w]
                    rfl
                  refine pure_ (i := 11) (N := some 38) (v := ?_) (a' := ?_) #[false, true, true, true, true, false, true, true, true, true, false, true, false, false, false, false, false, false] rfl rfl (any_of HT_.out (by kernel_rfl)) (fun _ _ _ h => h) (Or.inl ⟨by rfl, ?_⟩) ?_ ?_
                  rotate_left
                  · intro w'
                    go_simp
                    with_reducible rfl
                  rotate_left
                  · simp only [Act.put, List.setIfInBounds_toArray, List.set_cons_zero, List.set_cons_succ, i64_w, i32_w]
                    rfl
                  refine pure_ (i := 12) (N := some 39) (v := ?_) (a' := ?_) #[false, true, true, true, true, false, true, true, true, true, false, true, true, false, false, false, false, false] rfl rfl (any_of HT_.out (by kernel_rfl)) (fun _ _ _ h => h) (Or.inl ⟨by rfl, ?_⟩) ?_ ?_
                  rotate_left
                  · intro w'
                    go_simp
                    with_reducible rfl
                  rotate_left
                  · simp only [Act.put, List.setIfInBounds_toArray, List.set_cons_zero, List.set_cons_succ, i64_w, i32_w]
                    rfl
                  refine pure_ (i := 13) (N := some 40) (v := ?_) (a' := ?_) #[false, true, true, true, true, false, true, true, true, true, false, true, true, true, false, false, false, false] rfl rfl (any_of HT_.out (by kernel_rfl)) (fun _ _ _ h => h) (Or.inl ⟨by rfl, ?_⟩) ?_ ?_
                  rotate_left
                  · intro w'
                    go_simp
                    with_reducible rfl
                  rotate_left
                  · simp only [Act.put, List.setIfInBounds_toArray, List.set_cons_zero, List.set_cons_succ, i64_w, i32_w]
                    rfl
                  refine pure_ (i := 14) (N := some 41) (v := ?_) (a' := ?_) #[false, true, true, true, true, false, true, true, true, true, false, true, true, true, true, false, false, false] rfl rfl (any_of HT_.out (by kernel_rfl)) (fun _ _ _ h => h) (Or.inl ⟨by rfl, ?_⟩) ?_ ?_
                  rotate_left
                  · intro w'
                    go_simp
                    with_reducible rfl
                  rotate_left
                  · simp only [Act.put, List.setIfInBounds_toArray, List.set_cons_zero, List.set_cons_succ, i64_w, i32_w]
                    rfl
                  refine take_ (i := 0) (N := some 27) (v := ?_) (a' := ?_) #[true, true, true, true, true, false, true, true, true, true, false, true, true, true, true, false, false, false] rfl rfl (take_ofW HT_.out HW_.out (by kernel_rfl)) (fun _ _ _ h => h) (Or.inl ⟨by rfl, ?_⟩) hHeld ?_ ?_
                  rotate_left
                  · rintro w' ⟨s0, s1, s2, s3, s4, s5, s6, s7, s8, s9, s10, s11, s12, s13, s14, s15, s16, s17, s18⟩
                    go_simp
                    with_reducible rfl
                  rotate_left
                  · simp only [Act.put, List.setIfInBounds_toArray, List.set_cons_zero, List.set_cons_succ, i64_w, i32_w]
                    rfl
                  refine take_ (i := 5) (N := some 32) (v := ?_) (a' := ?_) #[true, true, true, true, true, true, true, true, true, true, false, true, true, true, true, false, false, false] rfl rfl (take_ofW HT_.out HW_.out (by kernel_rfl)) (fun _ _ _ h => h) (Or.inl ⟨by rfl, ?_⟩) hHeld ?_ ?_
                  rotate_left
                  · rintro w' ⟨s0, s1, s2, s3, s4, s5, s6, s7, s8, s9, s10, s11, s12, s13, s14, s15, s16, s17, s18⟩
                    go_simp
                    with_reducible rfl
                  rotate_left
                  · simp only [Act.put, List.setIfInBounds_toArray, List.set_cons_zero, List.set_cons_succ, i64_w, i32_w]
                    rfl
                  refine take_ (i := 10) (N := some 37) (v := ?_) (a' := ?_) #[true, true, true, true, true, true, true, true, true, true, true, true, true, true, true, false, false, false] rfl rfl (take_ofW HT_.out HW_.out (by kernel_rfl)) (fun _ _ _ h => h) (Or.inl ⟨by rfl, ?_⟩) hHeld ?_ ?_
                  rotate_left
                  · rintro w' ⟨s0, s1, s2, s3, s4, s5, s6, s7, s8, s9, s10, s11, s12, s13, s14, s15, s16, s17, s18⟩
                    go_simp
                    with_reducible rfl
                  rotate_left
                  · simp only [Act.put, List.setIfInBounds_toArray, List.set_cons_zero, List.set_cons_succ, i64_w, i32_w]
                    rfl
                  refine take_ (i := 15) (N := some 42) (v := ?_) (a' := ?_) #[true, true, true, true, true, true, true, true, true, true, true, true, true, true, true, true, false, false] rfl rfl (take_ofW HT_.out HW_.out (by kernel_rfl)) (fun _ _ _ h => h) (Or.inl ⟨by rfl, ?_⟩) hHeld ?_ ?_
                  rotate_left
                  · rintro w' ⟨s0, s1, s2, s3, s4, s5, s6, s7, s8, s9, s10, s11, s12, s13, s14, s15, s16, s17, s18⟩
                    go_simp
                    with_reducible rfl
                  rotate_left
                  · simp only [Act.put, List.setIfInBounds_toArray, List.set_cons_zero, List.set_cons_succ, i64_w, i32_w]
                    rfl
                  refine one_ (i := 16) (N := some 43) #[true, true, true, true, true, true, true, true, true, true, true, true, true, true, true, true, true, false] rfl rfl (one_of HT_.out (by kernel_rfl)) (by decide) (fun K hK => ?_)
                  refine goes_ Try.func11 (by kernel_rfl) rfl #[.agg #[.int .u64 x164000_1, .int .u64 x164001_1, .int .u64 x164002_1, .int .u64 x164003_1], .int .u64 ((rd_T34 l0 x5_1).f1), .int .u64 ((rd_T34 l0 x5_1).f2), .bool ((rd_T34 l0 x5_1).f4)] (by rfl) rfl rfl (by (try simp only [List.map_toArray, List.map_cons, List.map_nil]); first | done | rfl | (simp only [List.length_drop, List.length_take]; rfl)) ?_
                  with_reducible refine (reno_Ack.calls kj7 x164000_1 x164001_1 x164002_1 x164003_1 ((rd_T34 l0 x5_1).f1) ((rd_T34 l0 x5_1).f2) ((rd_T34 l0 x5_1).f4) t169 t170 t171 t172 _ A14.out).mono ?_
                  rintro e w22 ⟨rfl, hb⟩
                  refine ⟨_, rfl, ?_⟩
                  have n0_ := Aside0.mk (blk_below (g := gb163) (o := .cells #[.int .u64 x164000_1, .int .u64 x164001_1, .int .u64 x164002_1, .int .u64 x164003_1] 25 (0, 0)) (by (with_reducible repeat (first | refine blk_drewN ?_ _ | refine blk_drew ?_ | refine blk_alloc ?_ _)); exact BK163.out) hb)
                  have n1_ := Aside0.mk (blk_below (g := gb164) (o := .cells #[.int .u64 x164000_1, .int .u64 x164001_1, .int .u64 x164002_1, .int .u64 x164003_1] 25 (0, 0)) (by (with_reducible repeat (first | refine blk_drewN ?_ _ | refine blk_drew ?_ | refine blk_alloc ?_ _)); exact BK164.out) hb)
                  have n2_ := Aside0.mk (below_step (by repeat (first | (with_reducible first | exact HB.out | apply below_alloc | apply pw_below_drewN | apply below_drew1 | refine below_set ?_ GE163.out | refine below_set ?_ GE164.out) | exact HB.out)) hb)
                  clear BK163
                  clear BK164
                  clear HB
                  have BK163 := n0_
                  have BK164 := n1_
                  have HB := n2_
                  clear n0_ n1_ n2_
                  (try clear hb)
                  (try clear hb2)
                  (try clear hk)
                  (try clear hi)
                  refine hK.out _ _ ⟨(blk_cell BK163.out 0).trans rfl, (blk_cell BK163.out 1).trans rfl, (blk_cell BK163.out 2).trans rfl, (blk_cell BK163.out 3).trans rfl, ((HB.out.cell (World.block_lt_of_cell? w _ hw166_0)).trans hw166_0), ((HB.out.cell (World.block_lt_of_cell? w _ hw166_1)).trans hw166_1), ((HB.out.cell (World.block_lt_of_cell? w _ hw166_2)).trans hw166_2), ((HB.out.cell (World.block_lt_of_cell? w _ hw166_3)).trans hw166_3), ((HB.out.cell (World.block_lt_of_cell? w _ hw166_4)).trans hw166_4), ((HB.out.cell (World.block_lt_of_cell? w _ hw167_0)).trans hw167_0), ((HB.out.cell (World.block_lt_of_cell? w _ hw167_1)).trans hw167_1), ((HB.out.cell (World.block_lt_of_cell? w _ hw167_2)).trans hw167_2), ((HB.out.cell (World.block_lt_of_cell? w _ hw167_3)).trans hw167_3), ((HB.out.cell (World.block_lt_of_cell? w _ hw167_4)).trans hw167_4), ((HB.out.cell (World.block_lt_of_cell? w _ hw168_0)).trans hw168_0), ((HB.out.cell (World.block_lt_of_cell? w _ hw168_1)).trans hw168_1), ((HB.out.cell (World.block_lt_of_cell? w _ hw168_2)).trans hw168_2), ((HB.out.cell (World.block_lt_of_cell? w _ hw168_3)).trans hw168_3), ((HB.out.cell (World.block_lt_of_cell? w _ hw168_4)).trans hw168_4)⟩ (fun hHeld => ?_)
                  clear hK K
                  refine norm_ (a' := ?_) ?_ ?_
                  rotate_left
                  · show Act.put _ (some 43) _ = _
                    simp only [Act.put, List.setIfInBounds_toArray, List.set_cons_zero, List.set_cons_succ, i64_w, i32_w]
                    rfl
                  refine last_ (i := 17) (N := none) #[true, true, true, true, true, true, true, true, true, true, true, true, true, true, true, true, true, true] rfl rfl (one_of HT_.out (by kernel_rfl)) (by decide) (fun K hK => ?_)
                  have hs23 : w22.cell? ⟨gb163, 0, none⟩ = some (.int .u64 x164000_1) := (blk_cell BK163.out 0).trans rfl
                  have hfs23 := blk_frozen BK163.out 0
                  have hns23_1 := NB164_163.out
                  have hms23_1 := NB163_164.out
                  have hs24 : w22.cell? ⟨gb163, 1, none⟩ = some (.int .u64 x164001_1) := (blk_cell BK163.out 1).trans rfl
                  have hfs24 := blk_frozen BK163.out 1
                  have hns24_1 := NB164_163.out
                  have hms24_1 := NB163_164.out
                  have hs25 : w22.cell? ⟨gb163, 2, none⟩ = some (.int .u64 x164002_1) := (blk_cell BK163.out 2).trans rfl
                  have hfs25 := blk_frozen BK163.out 2
                  have hns25_1 := NB164_163.out
                  have hms25_1 := NB163_164.out
                  have hs26 : w22.cell? ⟨gb163, 3, none⟩ = some (.int .u64 x164003_1) := (blk_cell BK163.out 3).trans rfl
                  have hfs26 := blk_frozen BK163.out 3
                  have hns26_1 := NB164_163.out
                  have hms26_1 := NB163_164.out
                  refine skip_ (w1 := ?_) (by rfl) rfl ?_ ?_
                  rotate_left
                  · go_simp
                    rfl
                  refine hK.out _ _ ?_
                  clear hK K
                  refine done_ (done_of HT_.out (by kernel_rfl)) ?_
                  go_upto_region 10 with (fail)
                  go_cut [62] (fun v62 wc => ∃ (kq : Nat) (x62_14 : Bool), v62 = .bool x62_14 ∧ Aside0 (wigwaglaw10_RenoHolds.j2 kq l0 t158 x5_1 x62_14 t169 t170 t171 t172 = some r) ∧ Aside0 (kq ≤ kj7) ∧ Aside0 (wc.heap[gb163]? = some (.cells #[.int .u64 t169, .int .u64 t170, .int .u64 t171, .int .u64 t172] 25 (0, 0))) ∧ Aside0 (wc.heap[gb164]? = some (.cells #[.int .u64 x164000_1, .int .u64 x164001_1, .int .u64 x164002_1, .int .u64 x164003_1] 25 (0, 0))) ∧ Aside0 (Below w.heap.size w wc))
                  case first =>
                    have H := HC15.out
                    clear HC15
                    by_cases c27 : t169 < x164000_1
                    · rw [if_pos c27] at H
                      have c27b0 : decide (t169 < x164000_1) = true := decide_eq_true c27
                      clear c27
                      (first | rw [c27b0] | (simp only [i64_w, i32_w]; rw [c27b0]) | skip)
                      have H' := Aside0.mk H
                      clear H
                      have hnb28 := NB163_164.out
                      have hnc28 := NB164_163.out
                      have hcz29_0 : w22.cell? ⟨gb163, 0, none⟩ = some (.int .u64 x164000_1) := (blk_cell BK163.out 0).trans rfl
                      have hcz29_1 : w22.cell? ⟨gb163, 1, none⟩ = some (.int .u64 x164001_1) := (blk_cell BK163.out 1).trans rfl
                      have hcz29_2 : w22.cell? ⟨gb163, 2, none⟩ = some (.int .u64 x164002_1) := (blk_cell BK163.out 2).trans rfl
                      have hcz29_3 : w22.cell? ⟨gb163, 3, none⟩ = some (.int .u64 x164003_1) := (blk_cell BK163.out 3).trans rfl
                      have hfz29_0 := blk_frozen BK163.out 0
                      have hfz29_1 := blk_frozen BK163.out 1
                      have hfz29_2 := blk_frozen BK163.out 2
                      have hfz29_3 := blk_frozen BK163.out 3
                      have hcz30_0 : w22.cell? ⟨gb164, 0, none⟩ = some (.int .u64 x164000_1) := (blk_cell BK164.out 0).trans rfl
                      have hcz30_1 : w22.cell? ⟨gb164, 1, none⟩ = some (.int .u64 x164001_1) := (blk_cell BK164.out 1).trans rfl
                      have hcz30_2 : w22.cell? ⟨gb164, 2, none⟩ = some (.int .u64 x164002_1) := (blk_cell BK164.out 2).trans rfl
                      have hcz30_3 : w22.cell? ⟨gb164, 3, none⟩ = some (.int .u64 x164003_1) := (blk_cell BK164.out 3).trans rfl
                      have hfz30_0 := blk_frozen BK164.out 0
                      have hfz30_1 := blk_frozen BK164.out 1
                      have hfz30_2 := blk_frozen BK164.out 2
                      have hfz30_3 := blk_frozen BK164.out 3
                      go_wp2
                      go_meet
                      case rel => exact ⟨_, (true), (by first | rfl | (simp; done) | (simp [*]; done)), H', ⟨by have := HK1.out; have := HJ7.out; first | omega | exact Nat.le_refl _⟩, ⟨by (with_reducible repeat (first | refine blk_drewN ?_ _ | refine blk_drew ?_ | refine blk_alloc ?_ _)); refine blk_put (cs := #[.int .u64 t169, .int .u64 t170, .int .u64 t171, .int .u64 x164003_1]) ?_ 3 _ rfl; (with_reducible repeat (first | refine blk_drewN ?_ _ | refine blk_drew ?_ | refine blk_alloc ?_ _)); refine blk_put (cs := #[.int .u64 t169, .int .u64 t170, .int .u64 x164002_1, .int .u64 x164003_1]) ?_ 2 _ rfl; (with_reducible repeat (first | refine blk_drewN ?_ _ | refine blk_drew ?_ | refine blk_alloc ?_ _)); refine blk_put (cs := #[.int .u64 t169, .int .u64 x164001_1, .int .u64 x164002_1, .int .u64 x164003_1]) ?_ 1 _ rfl; (with_reducible repeat (first | refine blk_drewN ?_ _ | refine blk_drew ?_ | refine blk_alloc ?_ _)); refine blk_put (cs := #[.int .u64 x164000_1, .int .u64 x164001_1, .int .u64 x164002_1, .int .u64 x164003_1]) ?_ 0 _ rfl; (with_reducible repeat (first | refine blk_drewN ?_ _ | refine blk_drew ?_ | refine blk_alloc ?_ _)); exact BK163.out⟩, ⟨by (with_reducible repeat (first | refine blk_drewN ?_ _ | refine blk_drew ?_ | refine blk_alloc ?_ _)); refine blk_far ?_ NB164_163.out _; (with_reducible repeat (first | refine blk_drewN ?_ _ | refine blk_drew ?_ | refine blk_alloc ?_ _)); refine blk_far ?_ NB164_163.out _; (with_reducible repeat (first | refine blk_drewN ?_ _ | refine blk_drew ?_ | refine blk_alloc ?_ _)); refine blk_far ?_ NB164_163.out _; (with_reducible repeat (first | refine blk_drewN ?_ _ | refine blk_drew ?_ | refine blk_alloc ?_ _)); refine blk_far ?_ NB164_163.out _; (with_reducible repeat (first | refine blk_drewN ?_ _ | refine blk_drew ?_ | refine blk_alloc ?_ _)); exact BK164.out⟩, ⟨by repeat (first | (with_reducible first | exact HB.out | apply below_alloc | apply pw_below_drewN | apply below_drew1 | refine below_set ?_ GE163.out | refine below_set ?_ GE164.out) | exact HB.out)⟩⟩
                    · rw [if_neg c27] at H
                      have c27b0 : decide (t169 < x164000_1) = false := decide_eq_false c27
                      clear c27
                      (first | rw [c27b0] | (simp only [i64_w, i32_w]; rw [c27b0]) | skip)
                      by_cases c31 : t170 = x164001_1
                      · rw [if_pos c31] at H
                        have c31b0 : (t170 == x164001_1) = true := beq_iff_eq.mpr c31
                        have c31b1 : (t170 != x164001_1) = false := bne_eq_false_iff_eq.mpr c31
                        clear c31
                        have H' := Aside0.mk H
                        clear H
                        have hnb32 := NB163_164.out
                        have hnc32 := NB164_163.out
                        have hcz33_0 : w22.cell? ⟨gb163, 0, none⟩ = some (.int .u64 x164000_1) := (blk_cell BK163.out 0).trans rfl
                        have hcz33_1 : w22.cell? ⟨gb163, 1, none⟩ = some (.int .u64 x164001_1) := (blk_cell BK163.out 1).trans rfl
                        have hcz33_2 : w22.cell? ⟨gb163, 2, none⟩ = some (.int .u64 x164002_1) := (blk_cell BK163.out 2).trans rfl
                        have hcz33_3 : w22.cell? ⟨gb163, 3, none⟩ = some (.int .u64 x164003_1) := (blk_cell BK163.out 3).trans rfl
                        have hfz33_0 := blk_frozen BK163.out 0
                        have hfz33_1 := blk_frozen BK163.out 1
                        have hfz33_2 := blk_frozen BK163.out 2
                        have hfz33_3 := blk_frozen BK163.out 3
                        have hcz34_0 : w22.cell? ⟨gb164, 0, none⟩ = some (.int .u64 x164000_1) := (blk_cell BK164.out 0).trans rfl
                        have hcz34_1 : w22.cell? ⟨gb164, 1, none⟩ = some (.int .u64 x164001_1) := (blk_cell BK164.out 1).trans rfl
                        have hcz34_2 : w22.cell? ⟨gb164, 2, none⟩ = some (.int .u64 x164002_1) := (blk_cell BK164.out 2).trans rfl
                        have hcz34_3 : w22.cell? ⟨gb164, 3, none⟩ = some (.int .u64 x164003_1) := (blk_cell BK164.out 3).trans rfl
                        have hfz34_0 := blk_frozen BK164.out 0
                        have hfz34_1 := blk_frozen BK164.out 1
                        have hfz34_2 := blk_frozen BK164.out 2
                        have hfz34_3 := blk_frozen BK164.out 3
                        go_wp2
                        go_meet
                        case rel => exact ⟨_, ((t171 != x164002_1)), (by first | rfl | (simp; done) | (simp [*]; done)), H', ⟨by have := HK1.out; have := HJ7.out; first | omega | exact Nat.le_refl _⟩, ⟨by (with_reducible repeat (first | refine blk_drewN ?_ _ | refine blk_drew ?_ | refine blk_alloc ?_ _)); refine blk_put (cs := #[.int .u64 t169, .int .u64 t170, .int .u64 t171, .int .u64 x164003_1]) ?_ 3 _ rfl; (with_reducible repeat (first | refine blk_drewN ?_ _ | refine blk_drew ?_ | refine blk_alloc ?_ _)); refine blk_put (cs := #[.int .u64 t169, .int .u64 t170, .int .u64 x164002_1, .int .u64 x164003_1]) ?_ 2 _ rfl; (with_reducible repeat (first | refine blk_drewN ?_ _ | refine blk_drew ?_ | refine blk_alloc ?_ _)); refine blk_put (cs := #[.int .u64 t169, .int .u64 x164001_1, .int .u64 x164002_1, .int .u64 x164003_1]) ?_ 1 _ rfl; (with_reducible repeat (first | refine blk_drewN ?_ _ | refine blk_drew ?_ | refine blk_alloc ?_ _)); refine blk_put (cs := #[.int .u64 x164000_1, .int .u64 x164001_1, .int .u64 x164002_1, .int .u64 x164003_1]) ?_ 0 _ rfl; (with_reducible repeat (first | refine blk_drewN ?_ _ | refine blk_drew ?_ | refine blk_alloc ?_ _)); exact BK163.out⟩, ⟨by (with_reducible repeat (first | refine blk_drewN ?_ _ | refine blk_drew ?_ | refine blk_alloc ?_ _)); refine blk_far ?_ NB164_163.out _; (with_reducible repeat (first | refine blk_drewN ?_ _ | refine blk_drew ?_ | refine blk_alloc ?_ _)); refine blk_far ?_ NB164_163.out _; (with_reducible repeat (first | refine blk_drewN ?_ _ | refine blk_drew ?_ | refine blk_alloc ?_ _)); refine blk_far ?_ NB164_163.out _; (with_reducible repeat (first | refine blk_drewN ?_ _ | refine blk_drew ?_ | refine blk_alloc ?_ _)); refine blk_far ?_ NB164_163.out _; (with_reducible repeat (first | refine blk_drewN ?_ _ | refine blk_drew ?_ | refine blk_alloc ?_ _)); exact BK164.out⟩, ⟨by repeat (first | (with_reducible first | exact HB.out | apply below_alloc | apply pw_below_drewN | apply below_drew1 | refine below_set ?_ GE163.out | refine below_set ?_ GE164.out) | exact HB.out)⟩⟩
                      · rw [if_neg c31] at H
                        have c31b0 : (t170 == x164001_1) = false := beq_eq_false_iff_ne.mpr c31
                        have c31b1 : (t170 != x164001_1) = true := bne_iff_ne.mpr c31
                        have H' := Aside0.mk H
                        clear H
                        have hnb35 := NB163_164.out
                        have hnc35 := NB164_163.out
                        have hcz36_0 : w22.cell? ⟨gb163, 0, none⟩ = some (.int .u64 x164000_1) := (blk_cell BK163.out 0).trans rfl
                        have hcz36_1 : w22.cell? ⟨gb163, 1, none⟩ = some (.int .u64 x164001_1) := (blk_cell BK163.out 1).trans rfl
                        have hcz36_2 : w22.cell? ⟨gb163, 2, none⟩ = some (.int .u64 x164002_1) := (blk_cell BK163.out 2).trans rfl
                        have hcz36_3 : w22.cell? ⟨gb163, 3, none⟩ = some (.int .u64 x164003_1) := (blk_cell BK163.out 3).trans rfl
                        have hfz36_0 := blk_frozen BK163.out 0
                        have hfz36_1 := blk_frozen BK163.out 1
                        have hfz36_2 := blk_frozen BK163.out 2
                        have hfz36_3 := blk_frozen BK163.out 3
                        have hcz37_0 : w22.cell? ⟨gb164, 0, none⟩ = some (.int .u64 x164000_1) := (blk_cell BK164.out 0).trans rfl
                        have hcz37_1 : w22.cell? ⟨gb164, 1, none⟩ = some (.int .u64 x164001_1) := (blk_cell BK164.out 1).trans rfl
                        have hcz37_2 : w22.cell? ⟨gb164, 2, none⟩ = some (.int .u64 x164002_1) := (blk_cell BK164.out 2).trans rfl
                        have hcz37_3 : w22.cell? ⟨gb164, 3, none⟩ = some (.int .u64 x164003_1) := (blk_cell BK164.out 3).trans rfl
                        have hfz37_0 := blk_frozen BK164.out 0
                        have hfz37_1 := blk_frozen BK164.out 1
                        have hfz37_2 := blk_frozen BK164.out 2
                        have hfz37_3 := blk_frozen BK164.out 3
                        go_wp2
                        go_meet
                        case rel => exact ⟨_, (true), (by first | rfl | (simp; done) | (simp [*]; done)), H', ⟨by have := HK1.out; have := HJ7.out; first | omega | exact Nat.le_refl _⟩, ⟨by (with_reducible repeat (first | refine blk_drewN ?_ _ | refine blk_drew ?_ | refine blk_alloc ?_ _)); refine blk_put (cs := #[.int .u64 t169, .int .u64 t170, .int .u64 t171, .int .u64 x164003_1]) ?_ 3 _ rfl; (with_reducible repeat (first | refine blk_drewN ?_ _ | refine blk_drew ?_ | refine blk_alloc ?_ _)); refine blk_put (cs := #[.int .u64 t169, .int .u64 t170, .int .u64 x164002_1, .int .u64 x164003_1]) ?_ 2 _ rfl; (with_reducible repeat (first | refine blk_drewN ?_ _ | refine blk_drew ?_ | refine blk_alloc ?_ _)); refine blk_put (cs := #[.int .u64 t169, .int .u64 x164001_1, .int .u64 x164002_1, .int .u64 x164003_1]) ?_ 1 _ rfl; (with_reducible repeat (first | refine blk_drewN ?_ _ | refine blk_drew ?_ | refine blk_alloc ?_ _)); refine blk_put (cs := #[.int .u64 x164000_1, .int .u64 x164001_1, .int .u64 x164002_1, .int .u64 x164003_1]) ?_ 0 _ rfl; (with_reducible repeat (first | refine blk_drewN ?_ _ | refine blk_drew ?_ | refine blk_alloc ?_ _)); exact BK163.out⟩, ⟨by (with_reducible repeat (first | refine blk_drewN ?_ _ | refine blk_drew ?_ | refine blk_alloc ?_ _)); refine blk_far ?_ NB164_163.out _; (with_reducible repeat (first | refine blk_drewN ?_ _ | refine blk_drew ?_ | refine blk_alloc ?_ _)); refine blk_far ?_ NB164_163.out _; (with_reducible repeat (first | refine blk_drewN ?_ _ | refine blk_drew ?_ | refine blk_alloc ?_ _)); refine blk_far ?_ NB164_163.out _; (with_reducible repeat (first | refine blk_drewN ?_ _ | refine blk_drew ?_ | refine blk_alloc ?_ _)); refine blk_far ?_ NB164_163.out _; (with_reducible repeat (first | refine blk_drewN ?_ _ | refine blk_drew ?_ | refine blk_alloc ?_ _)); exact BK164.out⟩, ⟨by repeat (first | (with_reducible first | exact HB.out | apply below_alloc | apply pw_below_drewN | apply below_drew1 | refine below_set ?_ GE163.out | refine below_set ?_ GE164.out) | exact HB.out)⟩⟩
                  case rest =>
                    clear HC15
                    try clear c1
                    try clear p1
                    try clear q1
                    try clear hx1
                    try clear c2
                    try clear p2
                    try clear c3
                    try clear c5
                    try clear p6
                    try clear c9
                    try clear c9b0
                    try clear c10
                    try clear c11
                    try clear c11b0
                    try clear c12
                    try clear c12b0
                    try clear c13
                    try clear c13b0
                    try clear c13b1
                    try clear p16
                    try clear q16
                    try clear hx16
                    try clear c18
                    try clear c19
                    try clear c27
                    try clear c27b0
                    try clear c28
                    try clear c31
                    try clear c31b0
                    try clear c31b1
                    try clear c32
                    try clear c35
                    try clear hcz16_0
                    try clear hcz16_1
                    try clear hcz16_2
                    try clear hcz16_3
                    try clear hcz19_0
                    try clear hcz19_1
                    try clear hcz19_2
                    try clear hcz19_3
                    try clear hcz29_0
                    try clear hcz29_1
                    try clear hcz29_2
                    try clear hcz29_3
                    try clear hcz30_0
                    try clear hcz30_1
                    try clear hcz30_2
                    try clear hcz30_3
                    try clear hcz33_0
                    try clear hcz33_1
                    try clear hcz33_2
                    try clear hcz33_3
                    try clear hcz34_0
                    try clear hcz34_1
                    try clear hcz34_2
                    try clear hcz34_3
                    try clear hcz36_0
                    try clear hcz36_1
                    try clear hcz36_2
                    try clear hcz36_3
                    try clear hcz37_0
                    try clear hcz37_1
                    try clear hcz37_2
                    try clear hcz37_3
                    try clear hcz7_0
                    try clear hcz7_1
                    try clear hcz7_2
                    try clear hcz7_3
                    try clear hfz16_0
                    try clear hfz16_1
                    try clear hfz16_2
                    try clear hfz16_3
                    try clear hfz19_0
                    try clear hfz19_1
                    try clear hfz19_2
                    try clear hfz19_3
                    try clear hfz29_0
                    try clear hfz29_1
                    try clear hfz29_2
                    try clear hfz29_3
                    try clear hfz30_0
                    try clear hfz30_1
                    try clear hfz30_2
                    try clear hfz30_3
                    try clear hfz33_0
                    try clear hfz33_1
                    try clear hfz33_2
                    try clear hfz33_3
                    try clear hfz34_0
                    try clear hfz34_1
                    try clear hfz34_2
                    try clear hfz34_3
                    try clear hfz36_0
                    try clear hfz36_1
                    try clear hfz36_2
                    try clear hfz36_3
                    try clear hfz37_0
                    try clear hfz37_1
                    try clear hfz37_2
                    try clear hfz37_3
                    try clear hfz7_0
                    try clear hfz7_1
                    try clear hfz7_2
                    try clear hfz7_3
                    try clear hx165_0
                    try clear hx165_1
                    try clear hx165_2
                    try clear hx165_3
                    try clear hx165_4
                    try clear hx166_0
                    try clear hx166_1
                    try clear hx166_2
                    try clear hx166_3
                    try clear hx166_4
                    try clear hx167_0
                    try clear hx167_1
                    try clear hx167_2
                    try clear hx167_3
                    try clear hx167_4
                    try clear hx168_0
                    try clear hx168_1
                    try clear hx168_2
                    try clear hx168_3
                    try clear hx168_4
                    try clear p165
                    try clear p166
                    try clear p167
                    try clear p168
                    try clear p2
                    try clear q165
                    try clear q166
                    try clear q167
                    try clear q168
                    obtain ⟨kq, x62_14, rfl, HA, HJ14, BK163, BK164, HB⟩ := hcut
                    cases kq with
                    | zero => exact absurd HA.out (by simp [wigwaglaw10_RenoHolds.j2])
                    | succ kj14 =>
                      have H := HA.out
                      clear HA
                      simp only [wigwaglaw10_RenoHolds.j2] at H
                      by_cases c38 : x62_14 = true
                      · subst c38
                        have H1 : (some false) = some r := by rw [if_pos rfl] at H; exact H
                        clear H
                        have H := H1
                        clear H1
                        obtain rfl := Option.some.inj H
                        go_wp2
                        go_ret
                        exact ⟨by first | rfl | (simp [errW_none, errW_some] <;> rfl) | (simp [*, errW_none, errW_some] <;> rfl), by repeat (first | (with_reducible first | exact HB.out | apply below_alloc | apply pw_below_drewN | apply below_drew1 | refine below_set ?_ GE163.out | refine below_set ?_ GE164.out) | exact HB.out)⟩
                      · replace c38 := Bool.eq_false_iff.mpr c38
                        subst c38
                        have H1 : (if t169 < 2400 then (some false) else (if t169 > 16777216 then (some false) else (if t170 < 2400 then (some false) else (if t170 > 16777216 then (some false) else (wigwaglaw10_RenoHolds.l0 kj14 l0 t158 (wrap64 (x5_1 + 1)) t169 t170 t171 t172))))) = some r := by rw [if_neg (show ¬ (false = true) by decide)] at H; exact H
                        clear H
                        have H := H1
                        clear H1
                        by_cases c39 : t169 < 2400
                        · rw [if_pos c39] at H
                          have c39b0 : decide (t169 < 2400) = true := decide_eq_true c39
                          clear c39
                          obtain rfl := Option.some.inj H
                          have hnb40 := NB163_164.out
                          have hnc40 := NB164_163.out
                          have hcz41_0 : wc.cell? ⟨gb163, 0, none⟩ = some (.int .u64 t169) := (blk_cell BK163.out 0).trans rfl
                          have hcz41_1 : wc.cell? ⟨gb163, 1, none⟩ = some (.int .u64 t170) := (blk_cell BK163.out 1).trans rfl
                          have hcz41_2 : wc.cell? ⟨gb163, 2, none⟩ = some (.int .u64 t171) := (blk_cell BK163.out 2).trans rfl
                          have hcz41_3 : wc.cell? ⟨gb163, 3, none⟩ = some (.int .u64 t172) := (blk_cell BK163.out 3).trans rfl
                          have hfz41_0 := blk_frozen BK163.out 0
                          have hfz41_1 := blk_frozen BK163.out 1
                          have hfz41_2 := blk_frozen BK163.out 2
                          have hfz41_3 := blk_frozen BK163.out 3
                          go_wp2
                          go_ret
                          exact ⟨by first | rfl | (simp [errW_none, errW_some] <;> rfl) | (simp [*, errW_none, errW_some] <;> rfl), by repeat (first | (with_reducible first | exact HB.out | apply below_alloc | apply pw_below_drewN | apply below_drew1 | refine below_set ?_ GE163.out | refine below_set ?_ GE164.out) | exact HB.out)⟩
                        · rw [if_neg c39] at H
                          have c39b0 : decide (t169 < 2400) = false := decide_eq_false c39
                          clear c39
                          by_cases c42 : t169 > 16777216
                          · rw [if_pos c42] at H
                            have c42b0 : decide (16777216 < t169) = true := decide_eq_true c42
                            clear c42
                            obtain rfl := Option.some.inj H
                            have hnb43 := NB163_164.out
                            have hnc43 := NB164_163.out
                            have hcz44_0 : wc.cell? ⟨gb163, 0, none⟩ = some (.int .u64 t169) := (blk_cell BK163.out 0).trans rfl
                            have hcz44_1 : wc.cell? ⟨gb163, 1, none⟩ = some (.int .u64 t170) := (blk_cell BK163.out 1).trans rfl
                            have hcz44_2 : wc.cell? ⟨gb163, 2, none⟩ = some (.int .u64 t171) := (blk_cell BK163.out 2).trans rfl
                            have hcz44_3 : wc.cell? ⟨gb163, 3, none⟩ = some (.int .u64 t172) := (blk_cell BK163.out 3).trans rfl
                            have hfz44_0 := blk_frozen BK163.out 0
                            have hfz44_1 := blk_frozen BK163.out 1
                            have hfz44_2 := blk_frozen BK163.out 2
                            have hfz44_3 := blk_frozen BK163.out 3
                            go_wp2
                            go_ret
                            exact ⟨by first | rfl | (simp [errW_none, errW_some] <;> rfl) | (simp [*, errW_none, errW_some] <;> rfl), by repeat (first | (with_reducible first | exact HB.out | apply below_alloc | apply pw_below_drewN | apply below_drew1 | refine below_set ?_ GE163.out | refine below_set ?_ GE164.out) | exact HB.out)⟩
                          · rw [if_neg c42] at H
                            have c42b0 : decide (16777216 < t169) = false := decide_eq_false c42
                            clear c42
                            by_cases c45 : t170 < 2400
                            · rw [if_pos c45] at H
                              have c45b0 : decide (t170 < 2400) = true := decide_eq_true c45
                              clear c45
                              obtain rfl := Option.some.inj H
                              have hnb46 := NB163_164.out
                              have hnc46 := NB164_163.out
                              have hcz47_0 : wc.cell? ⟨gb163, 0, none⟩ = some (.int .u64 t169) := (blk_cell BK163.out 0).trans rfl
                              have hcz47_1 : wc.cell? ⟨gb163, 1, none⟩ = some (.int .u64 t170) := (blk_cell BK163.out 1).trans rfl
                              have hcz47_2 : wc.cell? ⟨gb163, 2, none⟩ = some (.int .u64 t171) := (blk_cell BK163.out 2).trans rfl
                              have hcz47_3 : wc.cell? ⟨gb163, 3, none⟩ = some (.int .u64 t172) := (blk_cell BK163.out 3).trans rfl
                              have hfz47_0 := blk_frozen BK163.out 0
                              have hfz47_1 := blk_frozen BK163.out 1
                              have hfz47_2 := blk_frozen BK163.out 2
                              have hfz47_3 := blk_frozen BK163.out 3
                              go_wp2
                              go_ret
                              exact ⟨by first | rfl | (simp [errW_none, errW_some] <;> rfl) | (simp [*, errW_none, errW_some] <;> rfl), by repeat (first | (with_reducible first | exact HB.out | apply below_alloc | apply pw_below_drewN | apply below_drew1 | refine below_set ?_ GE163.out | refine below_set ?_ GE164.out) | exact HB.out)⟩
                            · rw [if_neg c45] at H
                              have c45b0 : decide (t170 < 2400) = false := decide_eq_false c45
                              clear c45
                              by_cases c48 : t170 > 16777216
                              · rw [if_pos c48] at H
                                have c48b0 : decide (16777216 < t170) = true := decide_eq_true c48
                                clear c48
                                obtain rfl := Option.some.inj H
                                have hnb49 := NB163_164.out
                                have hnc49 := NB164_163.out
                                have hcz50_0 : wc.cell? ⟨gb163, 0, none⟩ = some (.int .u64 t169) := (blk_cell BK163.out 0).trans rfl
                                have hcz50_1 : wc.cell? ⟨gb163, 1, none⟩ = some (.int .u64 t170) := (blk_cell BK163.out 1).trans rfl
                                have hcz50_2 : wc.cell? ⟨gb163, 2, none⟩ = some (.int .u64 t171) := (blk_cell BK163.out 2).trans rfl
                                have hcz50_3 : wc.cell? ⟨gb163, 3, none⟩ = some (.int .u64 t172) := (blk_cell BK163.out 3).trans rfl
                                have hfz50_0 := blk_frozen BK163.out 0
                                have hfz50_1 := blk_frozen BK163.out 1
                                have hfz50_2 := blk_frozen BK163.out 2
                                have hfz50_3 := blk_frozen BK163.out 3
                                go_wp2
                                go_ret
                                exact ⟨by first | rfl | (simp [errW_none, errW_some] <;> rfl) | (simp [*, errW_none, errW_some] <;> rfl), by repeat (first | (with_reducible first | exact HB.out | apply below_alloc | apply pw_below_drewN | apply below_drew1 | refine below_set ?_ GE163.out | refine below_set ?_ GE164.out) | exact HB.out)⟩
                              · rw [if_neg c48] at H
                                have c48b0 : decide (16777216 < t170) = false := decide_eq_false c48
                                clear c48
                                have H' := Aside0.mk H
                                clear H
                                have hnb51 := NB163_164.out
                                have hnc51 := NB164_163.out
                                have hcz52_0 : wc.cell? ⟨gb163, 0, none⟩ = some (.int .u64 t169) := (blk_cell BK163.out 0).trans rfl
                                have hcz52_1 : wc.cell? ⟨gb163, 1, none⟩ = some (.int .u64 t170) := (blk_cell BK163.out 1).trans rfl
                                have hcz52_2 : wc.cell? ⟨gb163, 2, none⟩ = some (.int .u64 t171) := (blk_cell BK163.out 2).trans rfl
                                have hcz52_3 : wc.cell? ⟨gb163, 3, none⟩ = some (.int .u64 t172) := (blk_cell BK163.out 3).trans rfl
                                have hfz52_0 := blk_frozen BK163.out 0
                                have hfz52_1 := blk_frozen BK163.out 1
                                have hfz52_2 := blk_frozen BK163.out 2
                                have hfz52_3 := blk_frozen BK163.out 3
                                go_wp2
                                go_roundg kj14
                                case measure => have := HK1.out; have := HJ7.out; have := HJ14.out; omega
                                case rel => exact ⟨(wrap64 (x5_1 + 1)), (t169), (t170), (t171), (t172), (by first | rfl | (simp; done) | (simp [*]; done)), H', ⟨by have := HK1.out; have := HJ7.out; have := HJ14.out; omega⟩, ⟨by (with_reducible repeat (first | refine blk_drewN ?_ _ | refine blk_drew ?_ | refine blk_alloc ?_ _)); exact BK163.out⟩, ⟨by repeat (first | (with_reducible first | exact HB.out | apply below_alloc | apply pw_below_drewN | apply below_drew1 | refine below_set ?_ GE163.out | refine below_set ?_ GE164.out) | exact HB.out)⟩⟩
                · rw [if_neg c13] at H
                  have c13b0 : (((rd_T34 l0 x5_1).f0) == 1) = false := beq_eq_false_iff_ne.mpr c13
                  have c13b1 : (((rd_T34 l0 x5_1).f0) != 1) = true := bne_iff_ne.mpr c13
                  by_cases c53 : ((rd_T34 l0 x5_1).f0) = 2
                  · rw [if_pos c53] at H
                    have c53b0 : (((rd_T34 l0 x5_1).f0) == 2) = true := beq_iff_eq.mpr c53
                    have c53b1 : (((rd_T34 l0 x5_1).f0) != 2) = false := bne_eq_false_iff_eq.mpr c53
                    clear c53
                    replace H := Option.bind_eq_some_iff.mp H
                    obtain ⟨⟨t175, t176, t177, t178⟩, A540, H⟩ := H
                    replace H : (if t175 > x164000_1 then (some false) else (if t175 < 2400 then (some false) else (if t175 > 16777216 then (some false) else (if t176 < 2400 then (some false) else (if t176 > 16777216 then (some false) else (wigwaglaw10_RenoHolds.l0 kj7 l0 t158 (wrap64 (x5_1 + 1)) t175 t176 t177 t178)))))) = some r := H
                    have A54 := Aside0.mk A540
                    clear A540
                    by_cases c55 : t175 > x164000_1
                    · rw [if_pos c55] at H
                      have c55b0 : decide (x164000_1 < t175) = true := decide_eq_true c55
                      clear c55
                      obtain rfl := Option.some.inj H
                      have hcz56_0 : wc.cell? ⟨gb163, 0, none⟩ = some (.int .u64 x164000_1) := (blk_cell BK163.out 0).trans rfl
                      have hcz56_1 : wc.cell? ⟨gb163, 1, none⟩ = some (.int .u64 x164001_1) := (blk_cell BK163.out 1).trans rfl
                      have hcz56_2 : wc.cell? ⟨gb163, 2, none⟩ = some (.int .u64 x164002_1) := (blk_cell BK163.out 2).trans rfl
                      have hcz56_3 : wc.cell? ⟨gb163, 3, none⟩ = some (.int .u64 x164003_1) := (blk_cell BK163.out 3).trans rfl
                      have hfz56_0 := blk_frozen BK163.out 0
                      have hfz56_1 := blk_frozen BK163.out 1
                      have hfz56_2 := blk_frozen BK163.out 2
                      have hfz56_3 := blk_frozen BK163.out 3
                      try go_wp2_with (first | ((with_reducible refine gate_dst (N := 6) rfl ?_); refine box_event ?hg (N := 6) ?hd (cs := #[.int .u64 0, .int .u64 0, .int .u64 0, .int .u64 0]) (t := 25) ?hr ?_; (case hd => rfl); (case hg => rfl); (case hr => first | (go_simp; done) | (go_simp; rfl)); intro gb164 hg w57 hbox hb; have n0_ := Aside0.mk (blk_below (g := gb163) (o := .cells #[.int .u64 x164000_1, .int .u64 x164001_1, .int .u64 x164002_1, .int .u64 x164003_1] 25 (0, 0)) (by (with_reducible repeat (first | refine blk_drewN ?_ _ | refine blk_drew ?_ | refine blk_alloc ?_ _)); exact BK163.out) hb); have n1_ := Aside0.mk (below_step (by repeat (first | (with_reducible first | exact HB.out | apply below_alloc | apply pw_below_drewN | apply below_drew1 | refine below_set ?_ GE163.out) | exact HB.out)) hb); have n2_ := Aside0.mk (hbox); have n3_ := Aside0.mk ((by rw [hg]; exact (below_size (by repeat (first | (with_reducible first | exact HB.out | apply below_alloc | apply pw_below_drewN | apply below_drew1 | refine below_set ?_ GE163.out) | exact HB.out))) : w.heap.size ≤ gb164)); have n4_ := Aside0.mk ((by rw [hg]; exact (below_size (by repeat (first | (with_reducible first | exact HB.out | apply below_alloc | apply pw_below_drewN | apply below_drew1 | refine below_set ?_ GE163.out) | exact HB.out))) : w.heap.size ≤ gb164)); have n5_ := Aside0.mk ((by rw [hg]; exact Nat.ne_of_lt (blk_lt (g := gb163) (o := .cells #[.int .u64 x164000_1, .int .u64 x164001_1, .int .u64 x164002_1, .int .u64 x164003_1] 25 (0, 0)) (by (with_reducible repeat (first | refine blk_drewN ?_ _ | refine blk_drew ?_ | refine blk_alloc ?_ _)); exact BK163.out)) : gb163 ≠ gb164)); have n6_ := Aside0.mk ((by rw [hg]; exact Nat.ne_of_gt (blk_lt (g := gb163) (o := .cells #[.int .u64 x164000_1, .int .u64 x164001_1, .int .u64 x164002_1, .int .u64 x164003_1] 25 (0, 0)) (by (with_reducible repeat (first | refine blk_drewN ?_ _ | refine blk_drew ?_ | refine blk_alloc ?_ _)); exact BK163.out)) : gb164 ≠ gb163)); clear BK163; clear HB; have BK163 := n0_; have HB := n1_; have BK164 := n2_; have GW164 := n3_; have GE164 := n4_; have NB163_164 := n5_; have NB164_163 := n6_; clear n0_ n1_ n2_ n3_ n4_ n5_ n6_; clear hb hbox hg; have hnb58 := NB164_163.out; have hnc58 := NB163_164.out; have hcz59_0 : w57.cell? ⟨gb164, 0, none⟩ = some (.int .u64 0) := (blk_cell BK164.out 0).trans rfl; have hcz59_1 : w57.cell? ⟨gb164, 1, none⟩ = some (.int .u64 0) := (blk_cell BK164.out 1).trans rfl; have hcz59_2 : w57.cell? ⟨gb164, 2, none⟩ = some (.int .u64 0) := (blk_cell BK164.out 2).trans rfl; have hcz59_3 : w57.cell? ⟨gb164, 3, none⟩ = some (.int .u64 0) := (blk_cell BK164.out 3).trans rfl; have hfz59_0 := blk_frozen BK164.out 0; have hfz59_1 := blk_frozen BK164.out 1; have hfz59_2 := blk_frozen BK164.out 2; have hfz59_3 := blk_frozen BK164.out 3; have p165 : 0 ≤ (x5_1 : Int) := of_decide_eq_true (by first | (with_reducible assumption) | assumption); have q165 : x5_1 < (l0.length : Int) := of_decide_eq_true (by first | (with_reducible assumption) | assumption); obtain ⟨ad165, e165, hx165_0, hx165_1, hx165_2, hx165_3, hx165_4⟩ := at_T34 HR0.out x5_1 p165 q165; cases e165; have hn165_0 : ad165.block ≠ gb164 := Nat.ne_of_lt (Nat.lt_of_lt_of_le (by have := World.block_lt_of_cell? _ _ hx165_0; first | rwa [add_block] at this | exact this) GW164.out); have hn165_1 : ad165.block ≠ gb164 := Nat.ne_of_lt (Nat.lt_of_lt_of_le (by have := World.block_lt_of_cell? _ _ hx165_0; first | rwa [add_block] at this | exact this) GW164.out); have hn165_2 : ad165.block ≠ gb164 := Nat.ne_of_lt (Nat.lt_of_lt_of_le (by have := World.block_lt_of_cell? _ _ hx165_0; first | rwa [add_block] at this | exact this) GW164.out); have hn165_3 : ad165.block ≠ gb164 := Nat.ne_of_lt (Nat.lt_of_lt_of_le (by have := World.block_lt_of_cell? _ _ hx165_0; first | rwa [add_block] at this | exact this) GW164.out); replace hx165_0 := (HB.out.cell (World.block_lt_of_cell? w _ hx165_0)).trans hx165_0; replace hx165_1 := (HB.out.cell (World.block_lt_of_cell? w _ hx165_1)).trans hx165_1; replace hx165_2 := (HB.out.cell (World.block_lt_of_cell? w _ hx165_2)).trans hx165_2; replace hx165_3 := (HB.out.cell (World.block_lt_of_cell? w _ hx165_3)).trans hx165_3; replace hx165_4 := (HB.out.cell (World.block_lt_of_cell? w _ hx165_4)).trans hx165_4; replace hx165_0 := (cell_far (p := ⟨gb164, 0, none⟩) (by first | (rw [add_block]; exact hn165_0) | (show (Addr.add _ _).block ≠ _; rw [add_block]; exact hn165_0) | exact hn165_0) (.int .u64 x164000_1)).trans hx165_0; replace hx165_1 := (cell_far (p := ⟨gb164, 0, none⟩) (by first | (rw [add_block]; exact hn165_0) | (show (Addr.add _ _).block ≠ _; rw [add_block]; exact hn165_0) | exact hn165_0) (.int .u64 x164000_1)).trans hx165_1; replace hx165_2 := (cell_far (p := ⟨gb164, 0, none⟩) (by first | (rw [add_block]; exact hn165_0) | (show (Addr.add _ _).block ≠ _; rw [add_block]; exact hn165_0) | exact hn165_0) (.int .u64 x164000_1)).trans hx165_2; replace hx165_3 := (cell_far (p := ⟨gb164, 0, none⟩) (by first | (rw [add_block]; exact hn165_0) | (show (Addr.add _ _).block ≠ _; rw [add_block]; exact hn165_0) | exact hn165_0) (.int .u64 x164000_1)).trans hx165_3; replace hx165_4 := (cell_far (p := ⟨gb164, 0, none⟩) (by first | (rw [add_block]; exact hn165_0) | (show (Addr.add _ _).block ≠ _; rw [add_block]; exact hn165_0) | exact hn165_0) (.int .u64 x164000_1)).trans hx165_4; replace hx165_0 := (cell_far (p := ⟨gb164, 1, none⟩) (by first | (rw [add_block]; exact hn165_1) | (show (Addr.add _ _).block ≠ _; rw [add_block]; exact hn165_1) | exact hn165_1) (.int .u64 x164001_1)).trans hx165_0; replace hx165_1 := (cell_far (p := ⟨gb164, 1, none⟩) (by first | (rw [add_block]; exact hn165_1) | (show (Addr.add _ _).block ≠ _; rw [add_block]; exact hn165_1) | exact hn165_1) (.int .u64 x164001_1)).trans hx165_1; replace hx165_2 := (cell_far (p := ⟨gb164, 1, none⟩) (by first | (rw [add_block]; exact hn165_1) | (show (Addr.add _ _).block ≠ _; rw [add_block]; exact hn165_1) | exact hn165_1) (.int .u64 x164001_1)).trans hx165_2; replace hx165_3 := (cell_far (p := ⟨gb164, 1, none⟩) (by first | (rw [add_block]; exact hn165_1) | (show (Addr.add _ _).block ≠ _; rw [add_block]; exact hn165_1) | exact hn165_1) (.int .u64 x164001_1)).trans hx165_3; replace hx165_4 := (cell_far (p := ⟨gb164, 1, none⟩) (by first | (rw [add_block]; exact hn165_1) | (show (Addr.add _ _).block ≠ _; rw [add_block]; exact hn165_1) | exact hn165_1) (.int .u64 x164001_1)).trans hx165_4; replace hx165_0 := (cell_far (p := ⟨gb164, 2, none⟩) (by first | (rw [add_block]; exact hn165_2) | (show (Addr.add _ _).block ≠ _; rw [add_block]; exact hn165_2) | exact hn165_2) (.int .u64 x164002_1)).trans hx165_0; replace hx165_1 := (cell_far (p := ⟨gb164, 2, none⟩) (by first | (rw [add_block]; exact hn165_2) | (show (Addr.add _ _).block ≠ _; rw [add_block]; exact hn165_2) | exact hn165_2) (.int .u64 x164002_1)).trans hx165_1; replace hx165_2 := (cell_far (p := ⟨gb164, 2, none⟩) (by first | (rw [add_block]; exact hn165_2) | (show (Addr.add _ _).block ≠ _; rw [add_block]; exact hn165_2) | exact hn165_2) (.int .u64 x164002_1)).trans hx165_2; replace hx165_3 := (cell_far (p := ⟨gb164, 2, none⟩) (by first | (rw [add_block]; exact hn165_2) | (show (Addr.add _ _).block ≠ _; rw [add_block]; exact hn165_2) | exact hn165_2) (.int .u64 x164002_1)).trans hx165_3; replace hx165_4 := (cell_far (p := ⟨gb164, 2, none⟩) (by first | (rw [add_block]; exact hn165_2) | (show (Addr.add _ _).block ≠ _; rw [add_block]; exact hn165_2) | exact hn165_2) (.int .u64 x164002_1)).trans hx165_4; replace hx165_0 := (cell_far (p := ⟨gb164, 3, none⟩) (by first | (rw [add_block]; exact hn165_3) | (show (Addr.add _ _).block ≠ _; rw [add_block]; exact hn165_3) | exact hn165_3) (.int .u64 x164003_1)).trans hx165_0; replace hx165_1 := (cell_far (p := ⟨gb164, 3, none⟩) (by first | (rw [add_block]; exact hn165_3) | (show (Addr.add _ _).block ≠ _; rw [add_block]; exact hn165_3) | exact hn165_3) (.int .u64 x164003_1)).trans hx165_1; replace hx165_2 := (cell_far (p := ⟨gb164, 3, none⟩) (by first | (rw [add_block]; exact hn165_3) | (show (Addr.add _ _).block ≠ _; rw [add_block]; exact hn165_3) | exact hn165_3) (.int .u64 x164003_1)).trans hx165_2; replace hx165_3 := (cell_far (p := ⟨gb164, 3, none⟩) (by first | (rw [add_block]; exact hn165_3) | (show (Addr.add _ _).block ≠ _; rw [add_block]; exact hn165_3) | exact hn165_3) (.int .u64 x164003_1)).trans hx165_3; replace hx165_4 := (cell_far (p := ⟨gb164, 3, none⟩) (by first | (rw [add_block]; exact hn165_3) | (show (Addr.add _ _).block ≠ _; rw [add_block]; exact hn165_3) | exact hn165_3) (.int .u64 x164003_1)).trans hx165_4; clear hn165_0; clear hn165_1; clear hn165_2; clear hn165_3; replace p165 := eq_true p165; replace q165 := eq_true q165))
                      have n0_ : Aside0 (((((w57.setCell ⟨gb164, 0, none⟩ (.int .u64 x164000_1)).setCell ⟨gb164, 1, none⟩ (.int .u64 x164001_1)).setCell ⟨gb164, 2, none⟩ (.int .u64 x164002_1)).setCell ⟨gb164, 3, none⟩ (.int .u64 x164003_1)).heap[gb163]? = some (.cells #[.int .u64 x164000_1, .int .u64 x164001_1, .int .u64 x164002_1, .int .u64 x164003_1] 25 (0, 0))) := ⟨by (with_reducible repeat (first | refine blk_drewN ?_ _ | refine blk_drew ?_ | refine blk_alloc ?_ _)); refine blk_far ?_ NB163_164.out _; (with_reducible repeat (first | refine blk_drewN ?_ _ | refine blk_drew ?_ | refine blk_alloc ?_ _)); refine blk_far ?_ NB163_164.out _; (with_reducible repeat (first | refine blk_drewN ?_ _ | refine blk_drew ?_ | refine blk_alloc ?_ _)); refine blk_far ?_ NB163_164.out _; (with_reducible repeat (first | refine blk_drewN ?_ _ | refine blk_drew ?_ | refine blk_alloc ?_ _)); refine blk_far ?_ NB163_164.out _; (with_reducible repeat (first | refine blk_drewN ?_ _ | refine blk_drew ?_ | refine blk_alloc ?_ _)); exact BK163.out⟩
                      have n1_ : Aside0 (((((w57.setCell ⟨gb164, 0, none⟩ (.int .u64 x164000_1)).setCell ⟨gb164, 1, none⟩ (.int .u64 x164001_1)).setCell ⟨gb164, 2, none⟩ (.int .u64 x164002_1)).setCell ⟨gb164, 3, none⟩ (.int .u64 x164003_1)).heap[gb164]? = some (.cells #[.int .u64 x164000_1, .int .u64 x164001_1, .int .u64 x164002_1, .int .u64 x164003_1] 25 (0, 0))) := ⟨by (with_reducible repeat (first | refine blk_drewN ?_ _ | refine blk_drew ?_ | refine blk_alloc ?_ _)); refine blk_put (cs := #[.int .u64 x164000_1, .int .u64 x164001_1, .int .u64 x164002_1, .int .u64 0]) ?_ 3 _ rfl; (with_reducible repeat (first | refine blk_drewN ?_ _ | refine blk_drew ?_ | refine blk_alloc ?_ _)); refine blk_put (cs := #[.int .u64 x164000_1, .int .u64 x164001_1, .int .u64 0, .int .u64 0]) ?_ 2 _ rfl; (with_reducible repeat (first | refine blk_drewN ?_ _ | refine blk_drew ?_ | refine blk_alloc ?_ _)); refine blk_put (cs := #[.int .u64 x164000_1, .int .u64 0, .int .u64 0, .int .u64 0]) ?_ 1 _ rfl; (with_reducible repeat (first | refine blk_drewN ?_ _ | refine blk_drew ?_ | refine blk_alloc ?_ _)); refine blk_put (cs := #[.int .u64 0, .int .u64 0, .int .u64 0, .int .u64 0]) ?_ 0 _ rfl; (with_reducible repeat (first | refine blk_drewN ?_ _ | refine blk_drew ?_ | refine blk_alloc ?_ _)); exact BK164.out⟩
                      have n2_ : Aside0 (Below w.heap.size w ((((w57.setCell ⟨gb164, 0, none⟩ (.int .u64 x164000_1)).setCell ⟨gb164, 1, none⟩ (.int .u64 x164001_1)).setCell ⟨gb164, 2, none⟩ (.int .u64 x164002_1)).setCell ⟨gb164, 3, none⟩ (.int .u64 x164003_1))) := ⟨by repeat (first | (with_reducible first | exact HB.out | apply below_alloc | apply pw_below_drewN | apply below_drew1 | refine below_set ?_ GE163.out | refine below_set ?_ GE164.out) | exact HB.out)⟩
                      (try clear BK163)
                      (try clear BK164)
                      (try clear HB)
                      generalize ((((w57.setCell ⟨gb164, 0, none⟩ (.int .u64 x164000_1)).setCell ⟨gb164, 1, none⟩ (.int .u64 x164001_1)).setCell ⟨gb164, 2, none⟩ (.int .u64 x164002_1)).setCell ⟨gb164, 3, none⟩ (.int .u64 x164003_1)) = w60 at n0_ n1_ n2_ ⊢
                      have BK163 := n0_
                      have BK164 := n1_
                      have HB := n2_
                      clear n0_ n1_ n2_
                      have n0_ := Aside0.mk (blk_drew BK163.out)
                      have n1_ := Aside0.mk (blk_drew BK164.out)
                      have n2_ := Aside0.mk (below_drew1 HB.out)
                      clear BK163
                      clear BK164
                      clear HB
                      have BK163 := n0_
                      have BK164 := n1_
                      have HB := n2_
                      clear n0_ n1_ n2_
                      have p173 : 0 ≤ (x5_1 : Int) := of_decide_eq_true (by first | (with_reducible assumption) | assumption)
                      have q173 : x5_1 < (l0.length : Int) := of_decide_eq_true (by first | (with_reducible assumption) | assumption)
                      obtain ⟨ad173, e173, hx173_0, hx173_1, hx173_2, hx173_3, hx173_4⟩ := at_T34 HR0.out x5_1 p173 q173
                      have hw173_4 := hx173_4
                      have hw173_3 := hx173_3
                      have hw173_2 := hx173_2
                      have hw173_1 := hx173_1
                      have hw173_0 := hx173_0
                      obtain rfl : ad165 = ad173 := (by injection e173)
                      replace hx173_0 := (HB.out.cell (World.block_lt_of_cell? w _ hx173_0)).trans hx173_0
                      replace hx173_1 := (HB.out.cell (World.block_lt_of_cell? w _ hx173_1)).trans hx173_1
                      replace hx173_2 := (HB.out.cell (World.block_lt_of_cell? w _ hx173_2)).trans hx173_2
                      replace hx173_3 := (HB.out.cell (World.block_lt_of_cell? w _ hx173_3)).trans hx173_3
                      replace hx173_4 := (HB.out.cell (World.block_lt_of_cell? w _ hx173_4)).trans hx173_4
                      replace p173 := eq_true p173
                      replace q173 := eq_true q173
                      have p174 : 0 ≤ (x5_1 : Int) := of_decide_eq_true (by first | (with_reducible assumption) | assumption)
                      have q174 : x5_1 < (l0.length : Int) := of_decide_eq_true (by first | (with_reducible assumption) | assumption)
                      obtain ⟨ad174, e174, hx174_0, hx174_1, hx174_2, hx174_3, hx174_4⟩ := at_T34 HR0.out x5_1 p174 q174
                      have hw174_4 := hx174_4
                      have hw174_3 := hx174_3
                      have hw174_2 := hx174_2
                      have hw174_1 := hx174_1
                      have hw174_0 := hx174_0
                      obtain rfl : ad165 = ad174 := (by injection e174)
                      replace hx174_0 := (HB.out.cell (World.block_lt_of_cell? w _ hx174_0)).trans hx174_0
                      replace hx174_1 := (HB.out.cell (World.block_lt_of_cell? w _ hx174_1)).trans hx174_1
                      replace hx174_2 := (HB.out.cell (World.block_lt_of_cell? w _ hx174_2)).trans hx174_2
                      replace hx174_3 := (HB.out.cell (World.block_lt_of_cell? w _ hx174_3)).trans hx174_3
                      replace hx174_4 := (HB.out.cell (World.block_lt_of_cell? w _ hx174_4)).trans hx174_4
                      replace p174 := eq_true p174
                      replace q174 := eq_true q174
                      refine start_ (n := 13) (S := fun w' => w'.cell? ⟨gb163, 0, none⟩ = some (.int .u64 x164000_1) ∧ w'.cell? ⟨gb163, 1, none⟩ = some (.int .u64 x164001_1) ∧ w'.cell? ⟨gb163, 2, none⟩ = some (.int .u64 x164002_1) ∧ w'.cell? ⟨gb163, 3, none⟩ = some (.int .u64 x164003_1) ∧ w'.cell? (ad165.add ((x5_1).toNat * 5)) = some (.int .i64 ((rd_T34 l0 x5_1).f0)) ∧ w'.cell? ⟨(ad165.add ((x5_1).toNat * 5)).block, (ad165.add ((x5_1).toNat * 5)).off + 1, none⟩ = some (.int .u64 ((rd_T34 l0 x5_1).f1)) ∧ w'.cell? ⟨(ad165.add ((x5_1).toNat * 5)).block, (ad165.add ((x5_1).toNat * 5)).off + 2, none⟩ = some (.int .u64 ((rd_T34 l0 x5_1).f2)) ∧ w'.cell? ⟨(ad165.add ((x5_1).toNat * 5)).block, (ad165.add ((x5_1).toNat * 5)).off + 3, none⟩ = some (.int .u64 ((rd_T34 l0 x5_1).f3)) ∧ w'.cell? ⟨(ad165.add ((x5_1).toNat * 5)).block, (ad165.add ((x5_1).toNat * 5)).off + 4, none⟩ = some (.bool ((rd_T34 l0 x5_1).f4)) ∧ w'.cell? (ad165.add ((x5_1).toNat * 5)) = some (.int .i64 ((rd_T34 l0 x5_1).f0)) ∧ w'.cell? ⟨(ad165.add ((x5_1).toNat * 5)).block, (ad165.add ((x5_1).toNat * 5)).off + 1, none⟩ = some (.int .u64 ((rd_T34 l0 x5_1).f1)) ∧ w'.cell? ⟨(ad165.add ((x5_1).toNat * 5)).block, (ad165.add ((x5_1).toNat * 5)).off + 2, none⟩ = some (.int .u64 ((rd_T34 l0 x5_1).f2)) ∧ w'.cell? ⟨(ad165.add ((x5_1).toNat * 5)).block, (ad165.add ((x5_1).toNat * 5)).off + 3, none⟩ = some (.int .u64 ((rd_T34 l0 x5_1).f3)) ∧ w'.cell? ⟨(ad165.add ((x5_1).toNat * 5)).block, (ad165.add ((x5_1).toNat * 5)).off + 4, none⟩ = some (.bool ((rd_T34 l0 x5_1).f4))) (ds := [12]) #[false, false, false, false, false, false, false, false, false, false, false, false, false] (by kernel_rfl) rfl rfl ⟨(blk_cell BK163.out 0).trans rfl, (blk_cell BK163.out 1).trans rfl, (blk_cell BK163.out 2).trans rfl, (blk_cell BK163.out 3).trans rfl, ((HB.out.cell (World.block_lt_of_cell? w _ hw173_0)).trans hw173_0), ((HB.out.cell (World.block_lt_of_cell? w _ hw173_1)).trans hw173_1), ((HB.out.cell (World.block_lt_of_cell? w _ hw173_2)).trans hw173_2), ((HB.out.cell (World.block_lt_of_cell? w _ hw173_3)).trans hw173_3), ((HB.out.cell (World.block_lt_of_cell? w _ hw173_4)).trans hw173_4), ((HB.out.cell (World.block_lt_of_cell? w _ hw174_0)).trans hw174_0), ((HB.out.cell (World.block_lt_of_cell? w _ hw174_1)).trans hw174_1), ((HB.out.cell (World.block_lt_of_cell? w _ hw174_2)).trans hw174_2), ((HB.out.cell (World.block_lt_of_cell? w _ hw174_3)).trans hw174_3), ((HB.out.cell (World.block_lt_of_cell? w _ hw174_4)).trans hw174_4)⟩ (fun hHeld => ?_); refine with_tabW wigwaglaw10_RenoHolds.tab13 wigwaglaw10_RenoHolds.bits13 (fun HT_ HW_ => ?_)
                      generalize w60.drew = w61 at BK163 BK164 HB hx173_0 hx173_1 hx173_2 hx173_3 hx173_4 hx174_0 hx174_1 hx174_2 hx174_3 hx174_4 hHeld ⊢
                      refine pure_ (i := 1) (N := some 66) (v := ?_) (a' := ?_) #[false, true, false, false, false, false, false, false, false, false, false, false, false] rfl rfl (any_of HT_.out (by kernel_rfl)) (fun _ _ _ h => h) (Or.inl ⟨by rfl, ?_⟩) ?_ ?_
                      rotate_left
                      · intro w'
                        go_simp
                        with_reducible rfl
                      rotate_left
                      · simp only [Act.put, List.setIfInBounds_toArray, List.set_cons_zero, List.set_cons_succ, i64_w, i32_w]
                        rfl
                      refine pure_ (i := 2) (N := some 67) (v := ?_) (a' := ?_) #[false, true, true, false, false, false, false, false, false, false, false, false, false] rfl rfl (any_of HT_.out (by kernel_rfl)) (fun _ _ _ h => h) (Or.inl ⟨by rfl, ?_⟩) ?_ ?_
                      rotate_left
                      · intro w'
                        go_simp
                        with_reducible rfl
                      rotate_left
                      · simp only [Act.put, List.setIfInBounds_toArray, List.set_cons_zero, List.set_cons_succ, i64_w, i32_w]
                        rfl
                      refine pure_ (i := 3) (N := some 68) (v := ?_) (a' := ?_) #[false, true, true, true, false, false, false, false, false, false, false, false, false] rfl rfl (any_of HT_.out (by kernel_rfl)) (fun _ _ _ h => h) (Or.inl ⟨by rfl, ?_⟩) ?_ ?_
                      rotate_left
                      · intro w'
                        go_simp
                        with_reducible rfl
                      rotate_left
                      · simp only [Act.put, List.setIfInBounds_toArray, List.set_cons_zero, List.set_cons_succ, i64_w, i32_w]
                        rfl
                      refine pure_ (i := 4) (N := some 69) (v := ?_) (a' := ?_) #[false, true, true, true, true, false, false, false, false, false, false, false, false] rfl rfl (any_of HT_.out (by kernel_rfl)) (fun _ _ _ h => h) (Or.inl ⟨by rfl, ?_⟩) ?_ ?_
                      rotate_left
                      · intro w'
                        go_simp
                        with_reducible rfl
                      rotate_left
                      · simp only [Act.put, List.setIfInBounds_toArray, List.set_cons_zero, List.set_cons_succ, i64_w, i32_w]
                        rfl
                      refine pure_ (i := 6) (N := some 71) (v := ?_) (a' := ?_) #[false, true, true, true, true, false, true, false, false, false, false, false, false] rfl rfl (any_of HT_.out (by kernel_rfl)) (fun _ _ _ h => h) (Or.inl ⟨by rfl, ?_⟩) ?_ ?_
                      rotate_left
                      · intro w'
                        go_simp
                        with_reducible rfl
                      rotate_left
                      · simp only [Act.put, List.setIfInBounds_toArray, List.set_cons_zero, List.set_cons_succ, i64_w, i32_w]
                        rfl
                      refine pure_ (i := 7) (N := some 72) (v := ?_) (a' := ?_) #[false, true, true, true, true, false, true, true, false, false, false, false, false] rfl rfl (any_of HT_.out (by kernel_rfl)) (fun _ _ _ h => h) (Or.inl ⟨by rfl, ?_⟩) ?_ ?_
                      rotate_left
                      · intro w'
                        go_simp
                        with_reducible rfl
                      rotate_left
                      · simp only [Act.put, List.setIfInBounds_toArray, List.set_cons_zero, List.set_cons_succ, i64_w, i32_w]
                        rfl
                      refine pure_ (i := 8) (N := some 73) (v := ?_) (a' := ?_) #[false, true, true, true, true, false, true, true, true, false, false, false, false] rfl rfl (any_of HT_.out (by kernel_rfl)) (fun _ _ _ h => h) (Or.inl ⟨by rfl, ?_⟩) ?_ ?_
                      rotate_left
                      · intro w'
                        go_simp
                        with_reducible rfl
                      rotate_left
                      · simp only [Act.put, List.setIfInBounds_toArray, List.set_cons_zero, List.set_cons_succ, i64_w, i32_w]
                        rfl
                      refine pure_ (i := 9) (N := some 74) (v := ?_) (a' := ?_) #[false, true, true, true, true, false, true, true, true, true, false, false, false] rfl rfl (any_of HT_.out (by kernel_rfl)) (fun _ _ _ h => h) (Or.inl ⟨by rfl, ?_⟩) ?_ ?_
                      rotate_left
                      · intro w'
                        go_simp
                        with_reducible rfl
                      rotate_left
                      · simp only [Act.put, List.setIfInBounds_toArray, List.set_cons_zero, List.set_cons_succ, i64_w, i32_w]
                        rfl
                      refine take_ (i := 0) (N := some 65) (v := ?_) (a' := ?_) #[true, true, true, true, true, false, true, true, true, true, false, false, false] rfl rfl (take_ofW HT_.out HW_.out (by kernel_rfl)) (fun _ _ _ h => h) (Or.inl ⟨by rfl, ?_⟩) hHeld ?_ ?_
                      rotate_left
                      · rintro w' ⟨s0, s1, s2, s3, s4, s5, s6, s7, s8, s9, s10, s11, s12, s13⟩
                        go_simp
                        with_reducible rfl
                      rotate_left
                      · simp only [Act.put, List.setIfInBounds_toArray, List.set_cons_zero, List.set_cons_succ, i64_w, i32_w]
                        rfl
                      refine take_ (i := 5) (N := some 70) (v := ?_) (a' := ?_) #[true, true, true, true, true, true, true, true, true, true, false, false, false] rfl rfl (take_ofW HT_.out HW_.out (by kernel_rfl)) (fun _ _ _ h => h) (Or.inl ⟨by rfl, ?_⟩) hHeld ?_ ?_
                      rotate_left
                      · rintro w' ⟨s0, s1, s2, s3, s4, s5, s6, s7, s8, s9, s10, s11, s12, s13⟩
                        go_simp
                        with_reducible rfl
                      rotate_left
                      · simp only [Act.put, List.setIfInBounds_toArray, List.set_cons_zero, List.set_cons_succ, i64_w, i32_w]
                        rfl
                      refine take_ (i := 10) (N := some 75) (v := ?_) (a' := ?_) #[true, true, true, true, true, true, true, true, true, true, true, false, false] rfl rfl (take_ofW HT_.out HW_.out (by kernel_rfl)) (fun _ _ _ h => h) (Or.inl ⟨by rfl, ?_⟩) hHeld ?_ ?_
                      rotate_left
                      · rintro w' ⟨s0, s1, s2, s3, s4, s5, s6, s7, s8, s9, s10, s11, s12, s13⟩
                        go_simp
                        with_reducible rfl
                      rotate_left
                      · simp only [Act.put, List.setIfInBounds_toArray, List.set_cons_zero, List.set_cons_succ, i64_w, i32_w]
                        rfl
                      refine one_ (i := 11) (N := some 76) #[true, true, true, true, true, true, true, true, true, true, true, true, false] rfl rfl (one_of HT_.out (by kernel_rfl)) (by decide) (fun K hK => ?_)
                      refine goes_ Try.func13 (by kernel_rfl) rfl #[.agg #[.int .u64 x164000_1, .int .u64 x164001_1, .int .u64 x164002_1, .int .u64 x164003_1], .int .u64 ((rd_T34 l0 x5_1).f2), .int .u64 ((rd_T34 l0 x5_1).f3)] (by rfl) rfl rfl (by (try simp only [List.map_toArray, List.map_cons, List.map_nil]); first | done | rfl | (simp only [List.length_drop, List.length_take]; rfl)) ?_
                      with_reducible refine (reno_Loss.calls x164000_1 x164001_1 x164002_1 x164003_1 ((rd_T34 l0 x5_1).f2) ((rd_T34 l0 x5_1).f3) t175 t176 t177 t178 _ A54.out).mono ?_
                      rintro e w62 ⟨rfl, hb⟩
                      refine ⟨_, rfl, ?_⟩
                      have n0_ := Aside0.mk (blk_below (g := gb163) (o := .cells #[.int .u64 x164000_1, .int .u64 x164001_1, .int .u64 x164002_1, .int .u64 x164003_1] 25 (0, 0)) (by (with_reducible repeat (first | refine blk_drewN ?_ _ | refine blk_drew ?_ | refine blk_alloc ?_ _)); exact BK163.out) hb)
                      have n1_ := Aside0.mk (blk_below (g := gb164) (o := .cells #[.int .u64 x164000_1, .int .u64 x164001_1, .int .u64 x164002_1, .int .u64 x164003_1] 25 (0, 0)) (by (with_reducible repeat (first | refine blk_drewN ?_ _ | refine blk_drew ?_ | refine blk_alloc ?_ _)); exact BK164.out) hb)
                      have n2_ := Aside0.mk (below_step (by repeat (first | (with_reducible first | exact HB.out | apply below_alloc | apply pw_below_drewN | apply below_drew1 | refine below_set ?_ GE163.out | refine below_set ?_ GE164.out) | exact HB.out)) hb)
                      clear BK163
                      clear BK164
                      clear HB
                      have BK163 := n0_
                      have BK164 := n1_
                      have HB := n2_
                      clear n0_ n1_ n2_
                      (try clear hb)
                      (try clear hb2)
                      (try clear hk)
                      (try clear hi)
                      refine hK.out _ _ ⟨(blk_cell BK163.out 0).trans rfl, (blk_cell BK163.out 1).trans rfl, (blk_cell BK163.out 2).trans rfl, (blk_cell BK163.out 3).trans rfl, ((HB.out.cell (World.block_lt_of_cell? w _ hw173_0)).trans hw173_0), ((HB.out.cell (World.block_lt_of_cell? w _ hw173_1)).trans hw173_1), ((HB.out.cell (World.block_lt_of_cell? w _ hw173_2)).trans hw173_2), ((HB.out.cell (World.block_lt_of_cell? w _ hw173_3)).trans hw173_3), ((HB.out.cell (World.block_lt_of_cell? w _ hw173_4)).trans hw173_4), ((HB.out.cell (World.block_lt_of_cell? w _ hw174_0)).trans hw174_0), ((HB.out.cell (World.block_lt_of_cell? w _ hw174_1)).trans hw174_1), ((HB.out.cell (World.block_lt_of_cell? w _ hw174_2)).trans hw174_2), ((HB.out.cell (World.block_lt_of_cell? w _ hw174_3)).trans hw174_3), ((HB.out.cell (World.block_lt_of_cell? w _ hw174_4)).trans hw174_4)⟩ (fun hHeld => ?_)
                      clear hK K
                      refine norm_ (a' := ?_) ?_ ?_
                      rotate_left
                      · show Act.put _ (some 76) _ = _
                        simp only [Act.put, List.setIfInBounds_toArray, List.set_cons_zero, List.set_cons_succ, i64_w, i32_w]
                        rfl
                      refine last_ (i := 12) (N := none) #[true, true, true, true, true, true, true, true, true, true, true, true, true] rfl rfl (one_of HT_.out (by kernel_rfl)) (by decide) (fun K hK => ?_)
                      have hs63 : w62.cell? ⟨gb163, 0, none⟩ = some (.int .u64 x164000_1) := (blk_cell BK163.out 0).trans rfl
                      have hfs63 := blk_frozen BK163.out 0
                      have hns63_1 := NB164_163.out
                      have hms63_1 := NB163_164.out
                      have hs64 : w62.cell? ⟨gb163, 1, none⟩ = some (.int .u64 x164001_1) := (blk_cell BK163.out 1).trans rfl
                      have hfs64 := blk_frozen BK163.out 1
                      have hns64_1 := NB164_163.out
                      have hms64_1 := NB163_164.out
                      have hs65 : w62.cell? ⟨gb163, 2, none⟩ = some (.int .u64 x164002_1) := (blk_cell BK163.out 2).trans rfl
                      have hfs65 := blk_frozen BK163.out 2
                      have hns65_1 := NB164_163.out
                      have hms65_1 := NB163_164.out
                      have hs66 : w62.cell? ⟨gb163, 3, none⟩ = some (.int .u64 x164003_1) := (blk_cell BK163.out 3).trans rfl
                      have hfs66 := blk_frozen BK163.out 3
                      have hns66_1 := NB164_163.out
                      have hms66_1 := NB163_164.out
                      refine skip_ (w1 := ?_) (by rfl) rfl ?_ ?_
                      rotate_left
                      · go_simp
                        rfl
                      refine hK.out _ _ ?_
                      clear hK K
                      refine done_ (done_of HT_.out (by kernel_rfl)) ?_
                      have hcz67_0 : w62.cell? ⟨gb163, 0, none⟩ = some (.int .u64 x164000_1) := (blk_cell BK163.out 0).trans rfl
                      have hcz67_1 : w62.cell? ⟨gb163, 1, none⟩ = some (.int .u64 x164001_1) := (blk_cell BK163.out 1).trans rfl
                      have hcz67_2 : w62.cell? ⟨gb163, 2, none⟩ = some (.int .u64 x164002_1) := (blk_cell BK163.out 2).trans rfl
                      have hcz67_3 : w62.cell? ⟨gb163, 3, none⟩ = some (.int .u64 x164003_1) := (blk_cell BK163.out 3).trans rfl
                      have hfz67_0 := blk_frozen BK163.out 0
                      have hfz67_1 := blk_frozen BK163.out 1
                      have hfz67_2 := blk_frozen BK163.out 2
                      have hfz67_3 := blk_frozen BK163.out 3
                      have hcz68_0 : w62.cell? ⟨gb164, 0, none⟩ = some (.int .u64 x164000_1) := (blk_cell BK164.out 0).trans rfl
                      have hcz68_1 : w62.cell? ⟨gb164, 1, none⟩ = some (.int .u64 x164001_1) := (blk_cell BK164.out 1).trans rfl
                      have hcz68_2 : w62.cell? ⟨gb164, 2, none⟩ = some (.int .u64 x164002_1) := (blk_cell BK164.out 2).trans rfl
                      have hcz68_3 : w62.cell? ⟨gb164, 3, none⟩ = some (.int .u64 x164003_1) := (blk_cell BK164.out 3).trans rfl
                      have hfz68_0 := blk_frozen BK164.out 0
                      have hfz68_1 := blk_frozen BK164.out 1
                      have hfz68_2 := blk_frozen BK164.out 2
                      have hfz68_3 := blk_frozen BK164.out 3
                      try go_wp2
                      go_ret
                      exact ⟨by first | rfl | (simp [errW_none, errW_some] <;> rfl) | (simp [*, errW_none, errW_some] <;> rfl), by repeat (first | (with_reducible first | exact HB.out | apply below_alloc | apply pw_below_drewN | apply below_drew1 | refine below_set ?_ GE163.out | refine below_set ?_ GE164.out) | exact HB.out)⟩
                    · rw [if_neg c55] at H
                      have c55b0 : decide (x164000_1 < t175) = false := decide_eq_false c55
                      clear c55
                      have HS69 := Aside0.mk H
                      clear H
                      have hcz70_0 : wc.cell? ⟨gb163, 0, none⟩ = some (.int .u64 x164000_1) := (blk_cell BK163.out 0).trans rfl
                      have hcz70_1 : wc.cell? ⟨gb163, 1, none⟩ = some (.int .u64 x164001_1) := (blk_cell BK163.out 1).trans rfl
                      have hcz70_2 : wc.cell? ⟨gb163, 2, none⟩ = some (.int .u64 x164002_1) := (blk_cell BK163.out 2).trans rfl
                      have hcz70_3 : wc.cell? ⟨gb163, 3, none⟩ = some (.int .u64 x164003_1) := (blk_cell BK163.out 3).trans rfl
                      have hfz70_0 := blk_frozen BK163.out 0
                      have hfz70_1 := blk_frozen BK163.out 1
                      have hfz70_2 := blk_frozen BK163.out 2
                      have hfz70_3 := blk_frozen BK163.out 3
                      try go_wp2_with (first | ((with_reducible refine gate_dst (N := 6) rfl ?_); refine box_event ?hg (N := 6) ?hd (cs := #[.int .u64 0, .int .u64 0, .int .u64 0, .int .u64 0]) (t := 25) ?hr ?_; (case hd => rfl); (case hg => rfl); (case hr => first | (go_simp; done) | (go_simp; rfl)); intro gb164 hg w71 hbox hb; have n0_ := Aside0.mk (blk_below (g := gb163) (o := .cells #[.int .u64 x164000_1, .int .u64 x164001_1, .int .u64 x164002_1, .int .u64 x164003_1] 25 (0, 0)) (by (with_reducible repeat (first | refine blk_drewN ?_ _ | refine blk_drew ?_ | refine blk_alloc ?_ _)); exact BK163.out) hb); have n1_ := Aside0.mk (below_step (by repeat (first | (with_reducible first | exact HB.out | apply below_alloc | apply pw_below_drewN | apply below_drew1 | refine below_set ?_ GE163.out) | exact HB.out)) hb); have n2_ := Aside0.mk (hbox); have n3_ := Aside0.mk ((by rw [hg]; exact (below_size (by repeat (first | (with_reducible first | exact HB.out | apply below_alloc | apply pw_below_drewN | apply below_drew1 | refine below_set ?_ GE163.out) | exact HB.out))) : w.heap.size ≤ gb164)); have n4_ := Aside0.mk ((by rw [hg]; exact (below_size (by repeat (first | (with_reducible first | exact HB.out | apply below_alloc | apply pw_below_drewN | apply below_drew1 | refine below_set ?_ GE163.out) | exact HB.out))) : w.heap.size ≤ gb164)); have n5_ := Aside0.mk ((by rw [hg]; exact Nat.ne_of_lt (blk_lt (g := gb163) (o := .cells #[.int .u64 x164000_1, .int .u64 x164001_1, .int .u64 x164002_1, .int .u64 x164003_1] 25 (0, 0)) (by (with_reducible repeat (first | refine blk_drewN ?_ _ | refine blk_drew ?_ | refine blk_alloc ?_ _)); exact BK163.out)) : gb163 ≠ gb164)); have n6_ := Aside0.mk ((by rw [hg]; exact Nat.ne_of_gt (blk_lt (g := gb163) (o := .cells #[.int .u64 x164000_1, .int .u64 x164001_1, .int .u64 x164002_1, .int .u64 x164003_1] 25 (0, 0)) (by (with_reducible repeat (first | refine blk_drewN ?_ _ | refine blk_drew ?_ | refine blk_alloc ?_ _)); exact BK163.out)) : gb164 ≠ gb163)); clear BK163; clear HB; have BK163 := n0_; have HB := n1_; have BK164 := n2_; have GW164 := n3_; have GE164 := n4_; have NB163_164 := n5_; have NB164_163 := n6_; clear n0_ n1_ n2_ n3_ n4_ n5_ n6_; clear hb hbox hg; have hnb72 := NB164_163.out; have hnc72 := NB163_164.out; have hcz73_0 : w71.cell? ⟨gb164, 0, none⟩ = some (.int .u64 0) := (blk_cell BK164.out 0).trans rfl; have hcz73_1 : w71.cell? ⟨gb164, 1, none⟩ = some (.int .u64 0) := (blk_cell BK164.out 1).trans rfl; have hcz73_2 : w71.cell? ⟨gb164, 2, none⟩ = some (.int .u64 0) := (blk_cell BK164.out 2).trans rfl; have hcz73_3 : w71.cell? ⟨gb164, 3, none⟩ = some (.int .u64 0) := (blk_cell BK164.out 3).trans rfl; have hfz73_0 := blk_frozen BK164.out 0; have hfz73_1 := blk_frozen BK164.out 1; have hfz73_2 := blk_frozen BK164.out 2; have hfz73_3 := blk_frozen BK164.out 3; have p165 : 0 ≤ (x5_1 : Int) := of_decide_eq_true (by first | (with_reducible assumption) | assumption); have q165 : x5_1 < (l0.length : Int) := of_decide_eq_true (by first | (with_reducible assumption) | assumption); obtain ⟨ad165, e165, hx165_0, hx165_1, hx165_2, hx165_3, hx165_4⟩ := at_T34 HR0.out x5_1 p165 q165; cases e165; have hn165_0 : ad165.block ≠ gb164 := Nat.ne_of_lt (Nat.lt_of_lt_of_le (by have := World.block_lt_of_cell? _ _ hx165_0; first | rwa [add_block] at this | exact this) GW164.out); have hn165_1 : ad165.block ≠ gb164 := Nat.ne_of_lt (Nat.lt_of_lt_of_le (by have := World.block_lt_of_cell? _ _ hx165_0; first | rwa [add_block] at this | exact this) GW164.out); have hn165_2 : ad165.block ≠ gb164 := Nat.ne_of_lt (Nat.lt_of_lt_of_le (by have := World.block_lt_of_cell? _ _ hx165_0; first | rwa [add_block] at this | exact this) GW164.out); have hn165_3 : ad165.block ≠ gb164 := Nat.ne_of_lt (Nat.lt_of_lt_of_le (by have := World.block_lt_of_cell? _ _ hx165_0; first | rwa [add_block] at this | exact this) GW164.out); replace hx165_0 := (HB.out.cell (World.block_lt_of_cell? w _ hx165_0)).trans hx165_0; replace hx165_1 := (HB.out.cell (World.block_lt_of_cell? w _ hx165_1)).trans hx165_1; replace hx165_2 := (HB.out.cell (World.block_lt_of_cell? w _ hx165_2)).trans hx165_2; replace hx165_3 := (HB.out.cell (World.block_lt_of_cell? w _ hx165_3)).trans hx165_3; replace hx165_4 := (HB.out.cell (World.block_lt_of_cell? w _ hx165_4)).trans hx165_4; replace hx165_0 := (cell_far (p := ⟨gb164, 0, none⟩) (by first | (rw [add_block]; exact hn165_0) | (show (Addr.add _ _).block ≠ _; rw [add_block]; exact hn165_0) | exact hn165_0) (.int .u64 x164000_1)).trans hx165_0; replace hx165_1 := (cell_far (p := ⟨gb164, 0, none⟩) (by first | (rw [add_block]; exact hn165_0) | (show (Addr.add _ _).block ≠ _; rw [add_block]; exact hn165_0) | exact hn165_0) (.int .u64 x164000_1)).trans hx165_1; replace hx165_2 := (cell_far (p := ⟨gb164, 0, none⟩) (by first | (rw [add_block]; exact hn165_0) | (show (Addr.add _ _).block ≠ _; rw [add_block]; exact hn165_0) | exact hn165_0) (.int .u64 x164000_1)).trans hx165_2; replace hx165_3 := (cell_far (p := ⟨gb164, 0, none⟩) (by first | (rw [add_block]; exact hn165_0) | (show (Addr.add _ _).block ≠ _; rw [add_block]; exact hn165_0) | exact hn165_0) (.int .u64 x164000_1)).trans hx165_3; replace hx165_4 := (cell_far (p := ⟨gb164, 0, none⟩) (by first | (rw [add_block]; exact hn165_0) | (show (Addr.add _ _).block ≠ _; rw [add_block]; exact hn165_0) | exact hn165_0) (.int .u64 x164000_1)).trans hx165_4; replace hx165_0 := (cell_far (p := ⟨gb164, 1, none⟩) (by first | (rw [add_block]; exact hn165_1) | (show (Addr.add _ _).block ≠ _; rw [add_block]; exact hn165_1) | exact hn165_1) (.int .u64 x164001_1)).trans hx165_0; replace hx165_1 := (cell_far (p := ⟨gb164, 1, none⟩) (by first | (rw [add_block]; exact hn165_1) | (show (Addr.add _ _).block ≠ _; rw [add_block]; exact hn165_1) | exact hn165_1) (.int .u64 x164001_1)).trans hx165_1; replace hx165_2 := (cell_far (p := ⟨gb164, 1, none⟩) (by first | (rw [add_block]; exact hn165_1) | (show (Addr.add _ _).block ≠ _; rw [add_block]; exact hn165_1) | exact hn165_1) (.int .u64 x164001_1)).trans hx165_2; replace hx165_3 := (cell_far (p := ⟨gb164, 1, none⟩) (by first | (rw [add_block]; exact hn165_1) | (show (Addr.add _ _).block ≠ _; rw [add_block]; exact hn165_1) | exact hn165_1) (.int .u64 x164001_1)).trans hx165_3; replace hx165_4 := (cell_far (p := ⟨gb164, 1, none⟩) (by first | (rw [add_block]; exact hn165_1) | (show (Addr.add _ _).block ≠ _; rw [add_block]; exact hn165_1) | exact hn165_1) (.int .u64 x164001_1)).trans hx165_4; replace hx165_0 := (cell_far (p := ⟨gb164, 2, none⟩) (by first | (rw [add_block]; exact hn165_2) | (show (Addr.add _ _).block ≠ _; rw [add_block]; exact hn165_2) | exact hn165_2) (.int .u64 x164002_1)).trans hx165_0; replace hx165_1 := (cell_far (p := ⟨gb164, 2, none⟩) (by first | (rw [add_block]; exact hn165_2) | (show (Addr.add _ _).block ≠ _; rw [add_block]; exact hn165_2) | exact hn165_2) (.int .u64 x164002_1)).trans hx165_1; replace hx165_2 := (cell_far (p := ⟨gb164, 2, none⟩) (by first | (rw [add_block]; exact hn165_2) | (show (Addr.add _ _).block ≠ _; rw [add_block]; exact hn165_2) | exact hn165_2) (.int .u64 x164002_1)).trans hx165_2; replace hx165_3 := (cell_far (p := ⟨gb164, 2, none⟩) (by first | (rw [add_block]; exact hn165_2) | (show (Addr.add _ _).block ≠ _; rw [add_block]; exact hn165_2) | exact hn165_2) (.int .u64 x164002_1)).trans hx165_3; replace hx165_4 := (cell_far (p := ⟨gb164, 2, none⟩) (by first | (rw [add_block]; exact hn165_2) | (show (Addr.add _ _).block ≠ _; rw [add_block]; exact hn165_2) | exact hn165_2) (.int .u64 x164002_1)).trans hx165_4; replace hx165_0 := (cell_far (p := ⟨gb164, 3, none⟩) (by first | (rw [add_block]; exact hn165_3) | (show (Addr.add _ _).block ≠ _; rw [add_block]; exact hn165_3) | exact hn165_3) (.int .u64 x164003_1)).trans hx165_0; replace hx165_1 := (cell_far (p := ⟨gb164, 3, none⟩) (by first | (rw [add_block]; exact hn165_3) | (show (Addr.add _ _).block ≠ _; rw [add_block]; exact hn165_3) | exact hn165_3) (.int .u64 x164003_1)).trans hx165_1; replace hx165_2 := (cell_far (p := ⟨gb164, 3, none⟩) (by first | (rw [add_block]; exact hn165_3) | (show (Addr.add _ _).block ≠ _; rw [add_block]; exact hn165_3) | exact hn165_3) (.int .u64 x164003_1)).trans hx165_2; replace hx165_3 := (cell_far (p := ⟨gb164, 3, none⟩) (by first | (rw [add_block]; exact hn165_3) | (show (Addr.add _ _).block ≠ _; rw [add_block]; exact hn165_3) | exact hn165_3) (.int .u64 x164003_1)).trans hx165_3; replace hx165_4 := (cell_far (p := ⟨gb164, 3, none⟩) (by first | (rw [add_block]; exact hn165_3) | (show (Addr.add _ _).block ≠ _; rw [add_block]; exact hn165_3) | exact hn165_3) (.int .u64 x164003_1)).trans hx165_4; clear hn165_0; clear hn165_1; clear hn165_2; clear hn165_3; replace p165 := eq_true p165; replace q165 := eq_true q165))
                      have n0_ : Aside0 (((((w71.setCell ⟨gb164, 0, none⟩ (.int .u64 x164000_1)).setCell ⟨gb164, 1, none⟩ (.int .u64 x164001_1)).setCell ⟨gb164, 2, none⟩ (.int .u64 x164002_1)).setCell ⟨gb164, 3, none⟩ (.int .u64 x164003_1)).heap[gb163]? = some (.cells #[.int .u64 x164000_1, .int .u64 x164001_1, .int .u64 x164002_1, .int .u64 x164003_1] 25 (0, 0))) := ⟨by (with_reducible repeat (first | refine blk_drewN ?_ _ | refine blk_drew ?_ | refine blk_alloc ?_ _)); refine blk_far ?_ NB163_164.out _; (with_reducible repeat (first | refine blk_drewN ?_ _ | refine blk_drew ?_ | refine blk_alloc ?_ _)); refine blk_far ?_ NB163_164.out _; (with_reducible repeat (first | refine blk_drewN ?_ _ | refine blk_drew ?_ | refine blk_alloc ?_ _)); refine blk_far ?_ NB163_164.out _; (with_reducible repeat (first | refine blk_drewN ?_ _ | refine blk_drew ?_ | refine blk_alloc ?_ _)); refine blk_far ?_ NB163_164.out _; (with_reducible repeat (first | refine blk_drewN ?_ _ | refine blk_drew ?_ | refine blk_alloc ?_ _)); exact BK163.out⟩
                      have n1_ : Aside0 (((((w71.setCell ⟨gb164, 0, none⟩ (.int .u64 x164000_1)).setCell ⟨gb164, 1, none⟩ (.int .u64 x164001_1)).setCell ⟨gb164, 2, none⟩ (.int .u64 x164002_1)).setCell ⟨gb164, 3, none⟩ (.int .u64 x164003_1)).heap[gb164]? = some (.cells #[.int .u64 x164000_1, .int .u64 x164001_1, .int .u64 x164002_1, .int .u64 x164003_1] 25 (0, 0))) := ⟨by (with_reducible repeat (first | refine blk_drewN ?_ _ | refine blk_drew ?_ | refine blk_alloc ?_ _)); refine blk_put (cs := #[.int .u64 x164000_1, .int .u64 x164001_1, .int .u64 x164002_1, .int .u64 0]) ?_ 3 _ rfl; (with_reducible repeat (first | refine blk_drewN ?_ _ | refine blk_drew ?_ | refine blk_alloc ?_ _)); refine blk_put (cs := #[.int .u64 x164000_1, .int .u64 x164001_1, .int .u64 0, .int .u64 0]) ?_ 2 _ rfl; (with_reducible repeat (first | refine blk_drewN ?_ _ | refine blk_drew ?_ | refine blk_alloc ?_ _)); refine blk_put (cs := #[.int .u64 x164000_1, .int .u64 0, .int .u64 0, .int .u64 0]) ?_ 1 _ rfl; (with_reducible repeat (first | refine blk_drewN ?_ _ | refine blk_drew ?_ | refine blk_alloc ?_ _)); refine blk_put (cs := #[.int .u64 0, .int .u64 0, .int .u64 0, .int .u64 0]) ?_ 0 _ rfl; (with_reducible repeat (first | refine blk_drewN ?_ _ | refine blk_drew ?_ | refine blk_alloc ?_ _)); exact BK164.out⟩
                      have n2_ : Aside0 (Below w.heap.size w ((((w71.setCell ⟨gb164, 0, none⟩ (.int .u64 x164000_1)).setCell ⟨gb164, 1, none⟩ (.int .u64 x164001_1)).setCell ⟨gb164, 2, none⟩ (.int .u64 x164002_1)).setCell ⟨gb164, 3, none⟩ (.int .u64 x164003_1))) := ⟨by repeat (first | (with_reducible first | exact HB.out | apply below_alloc | apply pw_below_drewN | apply below_drew1 | refine below_set ?_ GE163.out | refine below_set ?_ GE164.out) | exact HB.out)⟩
                      (try clear BK163)
                      (try clear BK164)
                      (try clear HB)
                      generalize ((((w71.setCell ⟨gb164, 0, none⟩ (.int .u64 x164000_1)).setCell ⟨gb164, 1, none⟩ (.int .u64 x164001_1)).setCell ⟨gb164, 2, none⟩ (.int .u64 x164002_1)).setCell ⟨gb164, 3, none⟩ (.int .u64 x164003_1)) = w74 at n0_ n1_ n2_ ⊢
                      have BK163 := n0_
                      have BK164 := n1_
                      have HB := n2_
                      clear n0_ n1_ n2_
                      have n0_ := Aside0.mk (blk_drew BK163.out)
                      have n1_ := Aside0.mk (blk_drew BK164.out)
                      have n2_ := Aside0.mk (below_drew1 HB.out)
                      clear BK163
                      clear BK164
                      clear HB
                      have BK163 := n0_
                      have BK164 := n1_
                      have HB := n2_
                      clear n0_ n1_ n2_
                      have p173 : 0 ≤ (x5_1 : Int) := of_decide_eq_true (by first | (with_reducible assumption) | assumption)
                      have q173 : x5_1 < (l0.length : Int) := of_decide_eq_true (by first | (with_reducible assumption) | assumption)
                      obtain ⟨ad173, e173, hx173_0, hx173_1, hx173_2, hx173_3, hx173_4⟩ := at_T34 HR0.out x5_1 p173 q173
                      have hw173_4 := hx173_4
                      have hw173_3 := hx173_3
                      have hw173_2 := hx173_2
                      have hw173_1 := hx173_1
                      have hw173_0 := hx173_0
                      obtain rfl : ad165 = ad173 := (by injection e173)
                      replace hx173_0 := (HB.out.cell (World.block_lt_of_cell? w _ hx173_0)).trans hx173_0
                      replace hx173_1 := (HB.out.cell (World.block_lt_of_cell? w _ hx173_1)).trans hx173_1
                      replace hx173_2 := (HB.out.cell (World.block_lt_of_cell? w _ hx173_2)).trans hx173_2
                      replace hx173_3 := (HB.out.cell (World.block_lt_of_cell? w _ hx173_3)).trans hx173_3
                      replace hx173_4 := (HB.out.cell (World.block_lt_of_cell? w _ hx173_4)).trans hx173_4
                      replace p173 := eq_true p173
                      replace q173 := eq_true q173
                      have p174 : 0 ≤ (x5_1 : Int) := of_decide_eq_true (by first | (with_reducible assumption) | assumption)
                      have q174 : x5_1 < (l0.length : Int) := of_decide_eq_true (by first | (with_reducible assumption) | assumption)
                      obtain ⟨ad174, e174, hx174_0, hx174_1, hx174_2, hx174_3, hx174_4⟩ := at_T34 HR0.out x5_1 p174 q174
                      have hw174_4 := hx174_4
                      have hw174_3 := hx174_3
                      have hw174_2 := hx174_2
                      have hw174_1 := hx174_1
                      have hw174_0 := hx174_0
                      obtain rfl : ad165 = ad174 := (by injection e174)
                      replace hx174_0 := (HB.out.cell (World.block_lt_of_cell? w _ hx174_0)).trans hx174_0
                      replace hx174_1 := (HB.out.cell (World.block_lt_of_cell? w _ hx174_1)).trans hx174_1
                      replace hx174_2 := (HB.out.cell (World.block_lt_of_cell? w _ hx174_2)).trans hx174_2
                      replace hx174_3 := (HB.out.cell (World.block_lt_of_cell? w _ hx174_3)).trans hx174_3
                      replace hx174_4 := (HB.out.cell (World.block_lt_of_cell? w _ hx174_4)).trans hx174_4
                      replace p174 := eq_true p174
                      replace q174 := eq_true q174
                      refine start_ (n := 13) (S := fun w' => w'.cell? ⟨gb163, 0, none⟩ = some (.int .u64 x164000_1) ∧ w'.cell? ⟨gb163, 1, none⟩ = some (.int .u64 x164001_1) ∧ w'.cell? ⟨gb163, 2, none⟩ = some (.int .u64 x164002_1) ∧ w'.cell? ⟨gb163, 3, none⟩ = some (.int .u64 x164003_1) ∧ w'.cell? (ad165.add ((x5_1).toNat * 5)) = some (.int .i64 ((rd_T34 l0 x5_1).f0)) ∧ w'.cell? ⟨(ad165.add ((x5_1).toNat * 5)).block, (ad165.add ((x5_1).toNat * 5)).off + 1, none⟩ = some (.int .u64 ((rd_T34 l0 x5_1).f1)) ∧ w'.cell? ⟨(ad165.add ((x5_1).toNat * 5)).block, (ad165.add ((x5_1).toNat * 5)).off + 2, none⟩ = some (.int .u64 ((rd_T34 l0 x5_1).f2)) ∧ w'.cell? ⟨(ad165.add ((x5_1).toNat * 5)).block, (ad165.add ((x5_1).toNat * 5)).off + 3, none⟩ = some (.int .u64 ((rd_T34 l0 x5_1).f3)) ∧ w'.cell? ⟨(ad165.add ((x5_1).toNat * 5)).block, (ad165.add ((x5_1).toNat * 5)).off + 4, none⟩ = some (.bool ((rd_T34 l0 x5_1).f4)) ∧ w'.cell? (ad165.add ((x5_1).toNat * 5)) = some (.int .i64 ((rd_T34 l0 x5_1).f0)) ∧ w'.cell? ⟨(ad165.add ((x5_1).toNat * 5)).block, (ad165.add ((x5_1).toNat * 5)).off + 1, none⟩ = some (.int .u64 ((rd_T34 l0 x5_1).f1)) ∧ w'.cell? ⟨(ad165.add ((x5_1).toNat * 5)).block, (ad165.add ((x5_1).toNat * 5)).off + 2, none⟩ = some (.int .u64 ((rd_T34 l0 x5_1).f2)) ∧ w'.cell? ⟨(ad165.add ((x5_1).toNat * 5)).block, (ad165.add ((x5_1).toNat * 5)).off + 3, none⟩ = some (.int .u64 ((rd_T34 l0 x5_1).f3)) ∧ w'.cell? ⟨(ad165.add ((x5_1).toNat * 5)).block, (ad165.add ((x5_1).toNat * 5)).off + 4, none⟩ = some (.bool ((rd_T34 l0 x5_1).f4))) (ds := [12]) #[false, false, false, false, false, false, false, false, false, false, false, false, false] (by kernel_rfl) rfl rfl ⟨(blk_cell BK163.out 0).trans rfl, (blk_cell BK163.out 1).trans rfl, (blk_cell BK163.out 2).trans rfl, (blk_cell BK163.out 3).trans rfl, ((HB.out.cell (World.block_lt_of_cell? w _ hw173_0)).trans hw173_0), ((HB.out.cell (World.block_lt_of_cell? w _ hw173_1)).trans hw173_1), ((HB.out.cell (World.block_lt_of_cell? w _ hw173_2)).trans hw173_2), ((HB.out.cell (World.block_lt_of_cell? w _ hw173_3)).trans hw173_3), ((HB.out.cell (World.block_lt_of_cell? w _ hw173_4)).trans hw173_4), ((HB.out.cell (World.block_lt_of_cell? w _ hw174_0)).trans hw174_0), ((HB.out.cell (World.block_lt_of_cell? w _ hw174_1)).trans hw174_1), ((HB.out.cell (World.block_lt_of_cell? w _ hw174_2)).trans hw174_2), ((HB.out.cell (World.block_lt_of_cell? w _ hw174_3)).trans hw174_3), ((HB.out.cell (World.block_lt_of_cell? w _ hw174_4)).trans hw174_4)⟩ (fun hHeld => ?_); refine with_tabW wigwaglaw10_RenoHolds.tab13 wigwaglaw10_RenoHolds.bits13 (fun HT_ HW_ => ?_)
                      generalize w74.drew = w75 at BK163 BK164 HB hx173_0 hx173_1 hx173_2 hx173_3 hx173_4 hx174_0 hx174_1 hx174_2 hx174_3 hx174_4 hHeld ⊢
                      refine pure_ (i := 1) (N := some 66) (v := ?_) (a' := ?_) #[false, true, false, false, false, false, false, false, false, false, false, false, false] rfl rfl (any_of HT_.out (by kernel_rfl)) (fun _ _ _ h => h) (Or.inl ⟨by rfl, ?_⟩) ?_ ?_
                      rotate_left
                      · intro w'
                        go_simp
                        with_reducible rfl
                      rotate_left
                      · simp only [Act.put, List.setIfInBounds_toArray, List.set_cons_zero, List.set_cons_succ, i64_w, i32_w]
                        rfl
                      refine pure_ (i := 2) (N := some 67) (v := ?_) (a' := ?_) #[false, true, true, false, false, false, false, false, false, false, false, false, false] rfl rfl (any_of HT_.out (by kernel_rfl)) (fun _ _ _ h => h) (Or.inl ⟨by rfl, ?_⟩) ?_ ?_
                      rotate_left
                      · intro w'
                        go_simp
                        with_reducible rfl
                      rotate_left
                      · simp only [Act.put, List.setIfInBounds_toArray, List.set_cons_zero, List.set_cons_succ, i64_w, i32_w]
                        rfl
                      refine pure_ (i := 3) (N := some 68) (v := ?_) (a' := ?_) #[false, true, true, true, false, false, false, false, false, false, false, false, false] rfl rfl (any_of HT_.out (by kernel_rfl)) (fun _ _ _ h => h) (Or.inl ⟨by rfl, ?_⟩) ?_ ?_
                      rotate_left
                      · intro w'
                        go_simp
                        with_reducible rfl
                      rotate_left
                      · simp only [Act.put, List.setIfInBounds_toArray, List.set_cons_zero, List.set_cons_succ, i64_w, i32_w]
                        rfl
                      refine pure_ (i := 4) (N := some 69) (v := ?_) (a' := ?_) #[false, true, true, true, true, false, false, false, false, false, false, false, false] rfl rfl (any_of HT_.out (by kernel_rfl)) (fun _ _ _ h => h) (Or.inl ⟨by rfl, ?_⟩) ?_ ?_
                      rotate_left
                      · intro w'
                        go_simp
                        with_reducible rfl
                      rotate_left
                      · simp only [Act.put, List.setIfInBounds_toArray, List.set_cons_zero, List.set_cons_succ, i64_w, i32_w]
                        rfl
                      refine pure_ (i := 6) (N := some 71) (v := ?_) (a' := ?_) #[false, true, true, true, true, false, true, false, false, false, false, false, false] rfl rfl (any_of HT_.out (by kernel_rfl)) (fun _ _ _ h => h) (Or.inl ⟨by rfl, ?_⟩) ?_ ?_
                      rotate_left
                      · intro w'
                        go_simp
                        with_reducible rfl
                      rotate_left
                      · simp only [Act.put, List.setIfInBounds_toArray, List.set_cons_zero, List.set_cons_succ, i64_w, i32_w]
                        rfl
                      refine pure_ (i := 7) (N := some 72) (v := ?_) (a' := ?_) #[false, true, true, true, true, false, true, true, false, false, false, false, false] rfl rfl (any_of HT_.out (by kernel_rfl)) (fun _ _ _ h => h) (Or.inl ⟨by rfl, ?_⟩) ?_ ?_
                      rotate_left
                      · intro w'
                        go_simp
                        with_reducible rfl
                      rotate_left
                      · simp only [Act.put, List.setIfInBounds_toArray, List.set_cons_zero, List.set_cons_succ, i64_w, i32_w]
                        rfl
                      refine pure_ (i := 8) (N := some 73) (v := ?_) (a' := ?_) #[false, true, true, true, true, false, true, true, true, false, false, false, false] rfl rfl (any_of HT_.out (by kernel_rfl)) (fun _ _ _ h => h) (Or.inl ⟨by rfl, ?_⟩) ?_ ?_
                      rotate_left
                      · intro w'
                        go_simp
                        with_reducible rfl
                      rotate_left
                      · simp only [Act.put, List.setIfInBounds_toArray, List.set_cons_zero, List.set_cons_succ, i64_w, i32_w]
                        rfl
                      refine pure_ (i := 9) (N := some 74) (v := ?_) (a' := ?_) #[false, true, true, true, true, false, true, true, true, true, false, false, false] rfl rfl (any_of HT_.out (by kernel_rfl)) (fun _ _ _ h => h) (Or.inl ⟨by rfl, ?_⟩) ?_ ?_
                      rotate_left
                      · intro w'
                        go_simp
                        with_reducible rfl
                      rotate_left
                      · simp only [Act.put, List.setIfInBounds_toArray, List.set_cons_zero, List.set_cons_succ, i64_w, i32_w]
                        rfl
                      refine take_ (i := 0) (N := some 65) (v := ?_) (a' := ?_) #[true, true, true, true, true, false, true, true, true, true, false, false, false] rfl rfl (take_ofW HT_.out HW_.out (by kernel_rfl)) (fun _ _ _ h => h) (Or.inl ⟨by rfl, ?_⟩) hHeld ?_ ?_
                      rotate_left
                      · rintro w' ⟨s0, s1, s2, s3, s4, s5, s6, s7, s8, s9, s10, s11, s12, s13⟩
                        go_simp
                        with_reducible rfl
                      rotate_left
                      · simp only [Act.put, List.setIfInBounds_toArray, List.set_cons_zero, List.set_cons_succ, i64_w, i32_w]
                        rfl
                      refine take_ (i := 5) (N := some 70) (v := ?_) (a' := ?_) #[true, true, true, true, true, true, true, true, true, true, false, false, false] rfl rfl (take_ofW HT_.out HW_.out (by kernel_rfl)) (fun _ _ _ h => h) (Or.inl ⟨by rfl, ?_⟩) hHeld ?_ ?_
                      rotate_left
                      · rintro w' ⟨s0, s1, s2, s3, s4, s5, s6, s7, s8, s9, s10, s11, s12, s13⟩
                        go_simp
                        with_reducible rfl
                      rotate_left
                      · simp only [Act.put, List.setIfInBounds_toArray, List.set_cons_zero, List.set_cons_succ, i64_w, i32_w]
                        rfl
                      refine take_ (i := 10) (N := some 75) (v := ?_) (a' := ?_) #[true, true, true, true, true, true, true, true, true, true, true, false, false] rfl rfl (take_ofW HT_.out HW_.out (by kernel_rfl)) (fun _ _ _ h => h) (Or.inl ⟨by rfl, ?_⟩) hHeld ?_ ?_
                      rotate_left
                      · rintro w' ⟨s0, s1, s2, s3, s4, s5, s6, s7, s8, s9, s10, s11, s12, s13⟩
                        go_simp
                        with_reducible rfl
                      rotate_left
                      · simp only [Act.put, List.setIfInBounds_toArray, List.set_cons_zero, List.set_cons_succ, i64_w, i32_w]
                        rfl
                      refine one_ (i := 11) (N := some 76) #[true, true, true, true, true, true, true, true, true, true, true, true, false] rfl rfl (one_of HT_.out (by kernel_rfl)) (by decide) (fun K hK => ?_)
                      refine goes_ Try.func13 (by kernel_rfl) rfl #[.agg #[.int .u64 x164000_1, .int .u64 x164001_1, .int .u64 x164002_1, .int .u64 x164003_1], .int .u64 ((rd_T34 l0 x5_1).f2), .int .u64 ((rd_T34 l0 x5_1).f3)] (by rfl) rfl rfl (by (try simp only [List.map_toArray, List.map_cons, List.map_nil]); first | done | rfl | (simp only [List.length_drop, List.length_take]; rfl)) ?_
                      with_reducible refine (reno_Loss.calls x164000_1 x164001_1 x164002_1 x164003_1 ((rd_T34 l0 x5_1).f2) ((rd_T34 l0 x5_1).f3) t175 t176 t177 t178 _ A54.out).mono ?_
                      rintro e w76 ⟨rfl, hb⟩
                      refine ⟨_, rfl, ?_⟩
                      have n0_ := Aside0.mk (blk_below (g := gb163) (o := .cells #[.int .u64 x164000_1, .int .u64 x164001_1, .int .u64 x164002_1, .int .u64 x164003_1] 25 (0, 0)) (by (with_reducible repeat (first | refine blk_drewN ?_ _ | refine blk_drew ?_ | refine blk_alloc ?_ _)); exact BK163.out) hb)
                      have n1_ := Aside0.mk (blk_below (g := gb164) (o := .cells #[.int .u64 x164000_1, .int .u64 x164001_1, .int .u64 x164002_1, .int .u64 x164003_1] 25 (0, 0)) (by (with_reducible repeat (first | refine blk_drewN ?_ _ | refine blk_drew ?_ | refine blk_alloc ?_ _)); exact BK164.out) hb)
                      have n2_ := Aside0.mk (below_step (by repeat (first | (with_reducible first | exact HB.out | apply below_alloc | apply pw_below_drewN | apply below_drew1 | refine below_set ?_ GE163.out | refine below_set ?_ GE164.out) | exact HB.out)) hb)
                      clear BK163
                      clear BK164
                      clear HB
                      have BK163 := n0_
                      have BK164 := n1_
                      have HB := n2_
                      clear n0_ n1_ n2_
                      (try clear hb)
                      (try clear hb2)
                      (try clear hk)
                      (try clear hi)
                      refine hK.out _ _ ⟨(blk_cell BK163.out 0).trans rfl, (blk_cell BK163.out 1).trans rfl, (blk_cell BK163.out 2).trans rfl, (blk_cell BK163.out 3).trans rfl, ((HB.out.cell (World.block_lt_of_cell? w _ hw173_0)).trans hw173_0), ((HB.out.cell (World.block_lt_of_cell? w _ hw173_1)).trans hw173_1), ((HB.out.cell (World.block_lt_of_cell? w _ hw173_2)).trans hw173_2), ((HB.out.cell (World.block_lt_of_cell? w _ hw173_3)).trans hw173_3), ((HB.out.cell (World.block_lt_of_cell? w _ hw173_4)).trans hw173_4), ((HB.out.cell (World.block_lt_of_cell? w _ hw174_0)).trans hw174_0), ((HB.out.cell (World.block_lt_of_cell? w _ hw174_1)).trans hw174_1), ((HB.out.cell (World.block_lt_of_cell? w _ hw174_2)).trans hw174_2), ((HB.out.cell (World.block_lt_of_cell? w _ hw174_3)).trans hw174_3), ((HB.out.cell (World.block_lt_of_cell? w _ hw174_4)).trans hw174_4)⟩ (fun hHeld => ?_)
                      clear hK K
                      refine norm_ (a' := ?_) ?_ ?_
                      rotate_left
                      · show Act.put _ (some 76) _ = _
                        simp only [Act.put, List.setIfInBounds_toArray, List.set_cons_zero, List.set_cons_succ, i64_w, i32_w]
                        rfl
                      refine last_ (i := 12) (N := none) #[true, true, true, true, true, true, true, true, true, true, true, true, true] rfl rfl (one_of HT_.out (by kernel_rfl)) (by decide) (fun K hK => ?_)
                      have hs77 : w76.cell? ⟨gb163, 0, none⟩ = some (.int .u64 x164000_1) := (blk_cell BK163.out 0).trans rfl
                      have hfs77 := blk_frozen BK163.out 0
                      have hns77_1 := NB164_163.out
                      have hms77_1 := NB163_164.out
                      have hs78 : w76.cell? ⟨gb163, 1, none⟩ = some (.int .u64 x164001_1) := (blk_cell BK163.out 1).trans rfl
                      have hfs78 := blk_frozen BK163.out 1
                      have hns78_1 := NB164_163.out
                      have hms78_1 := NB163_164.out
                      have hs79 : w76.cell? ⟨gb163, 2, none⟩ = some (.int .u64 x164002_1) := (blk_cell BK163.out 2).trans rfl
                      have hfs79 := blk_frozen BK163.out 2
                      have hns79_1 := NB164_163.out
                      have hms79_1 := NB163_164.out
                      have hs80 : w76.cell? ⟨gb163, 3, none⟩ = some (.int .u64 x164003_1) := (blk_cell BK163.out 3).trans rfl
                      have hfs80 := blk_frozen BK163.out 3
                      have hns80_1 := NB164_163.out
                      have hms80_1 := NB163_164.out
                      refine skip_ (w1 := ?_) (by rfl) rfl ?_ ?_
                      rotate_left
                      · go_simp
                        rfl
                      refine hK.out _ _ ?_
                      clear hK K
                      refine done_ (done_of HT_.out (by kernel_rfl)) ?_
                      have hcz81_0 : w76.cell? ⟨gb163, 0, none⟩ = some (.int .u64 x164000_1) := (blk_cell BK163.out 0).trans rfl
                      have hcz81_1 : w76.cell? ⟨gb163, 1, none⟩ = some (.int .u64 x164001_1) := (blk_cell BK163.out 1).trans rfl
                      have hcz81_2 : w76.cell? ⟨gb163, 2, none⟩ = some (.int .u64 x164002_1) := (blk_cell BK163.out 2).trans rfl
                      have hcz81_3 : w76.cell? ⟨gb163, 3, none⟩ = some (.int .u64 x164003_1) := (blk_cell BK163.out 3).trans rfl
                      have hfz81_0 := blk_frozen BK163.out 0
                      have hfz81_1 := blk_frozen BK163.out 1
                      have hfz81_2 := blk_frozen BK163.out 2
                      have hfz81_3 := blk_frozen BK163.out 3
                      have hcz82_0 : w76.cell? ⟨gb164, 0, none⟩ = some (.int .u64 x164000_1) := (blk_cell BK164.out 0).trans rfl
                      have hcz82_1 : w76.cell? ⟨gb164, 1, none⟩ = some (.int .u64 x164001_1) := (blk_cell BK164.out 1).trans rfl
                      have hcz82_2 : w76.cell? ⟨gb164, 2, none⟩ = some (.int .u64 x164002_1) := (blk_cell BK164.out 2).trans rfl
                      have hcz82_3 : w76.cell? ⟨gb164, 3, none⟩ = some (.int .u64 x164003_1) := (blk_cell BK164.out 3).trans rfl
                      have hfz82_0 := blk_frozen BK164.out 0
                      have hfz82_1 := blk_frozen BK164.out 1
                      have hfz82_2 := blk_frozen BK164.out 2
                      have hfz82_3 := blk_frozen BK164.out 3
                      go_upto_region 18 with (fail)
                      (try simp only [Act.put, List.setIfInBounds_toArray, List.set_cons_zero, List.set_cons_succ])
                      have H := HS69.out
                      clear HS69
                      by_cases c83 : t175 < 2400
                      · rw [if_pos c83] at H
                        have c83b0 : decide (t175 < 2400) = true := decide_eq_true c83
                        clear c83
                        obtain rfl := Option.some.inj H
                        have hnb84 := NB163_164.out
                        have hnc84 := NB164_163.out
                        have hcz85_0 : w76.cell? ⟨gb163, 0, none⟩ = some (.int .u64 x164000_1) := (blk_cell BK163.out 0).trans rfl
                        have hcz85_1 : w76.cell? ⟨gb163, 1, none⟩ = some (.int .u64 x164001_1) := (blk_cell BK163.out 1).trans rfl
                        have hcz85_2 : w76.cell? ⟨gb163, 2, none⟩ = some (.int .u64 x164002_1) := (blk_cell BK163.out 2).trans rfl
                        have hcz85_3 : w76.cell? ⟨gb163, 3, none⟩ = some (.int .u64 x164003_1) := (blk_cell BK163.out 3).trans rfl
                        have hfz85_0 := blk_frozen BK163.out 0
                        have hfz85_1 := blk_frozen BK163.out 1
                        have hfz85_2 := blk_frozen BK163.out 2
                        have hfz85_3 := blk_frozen BK163.out 3
                        go_wp2
                        go_ret
                        exact ⟨by first | rfl | (simp [errW_none, errW_some] <;> rfl) | (simp [*, errW_none, errW_some] <;> rfl), by repeat (first | (with_reducible first | exact HB.out | apply below_alloc | apply pw_below_drewN | apply below_drew1 | refine below_set ?_ GE163.out | refine below_set ?_ GE164.out) | exact HB.out)⟩
                      · rw [if_neg c83] at H
                        have c83b0 : decide (t175 < 2400) = false := decide_eq_false c83
                        clear c83
                        by_cases c86 : t175 > 16777216
                        · rw [if_pos c86] at H
                          have c86b0 : decide (16777216 < t175) = true := decide_eq_true c86
                          clear c86
                          obtain rfl := Option.some.inj H
                          have hnb87 := NB163_164.out
                          have hnc87 := NB164_163.out
                          have hcz88_0 : w76.cell? ⟨gb163, 0, none⟩ = some (.int .u64 x164000_1) := (blk_cell BK163.out 0).trans rfl
                          have hcz88_1 : w76.cell? ⟨gb163, 1, none⟩ = some (.int .u64 x164001_1) := (blk_cell BK163.out 1).trans rfl
                          have hcz88_2 : w76.cell? ⟨gb163, 2, none⟩ = some (.int .u64 x164002_1) := (blk_cell BK163.out 2).trans rfl
                          have hcz88_3 : w76.cell? ⟨gb163, 3, none⟩ = some (.int .u64 x164003_1) := (blk_cell BK163.out 3).trans rfl
                          have hfz88_0 := blk_frozen BK163.out 0
                          have hfz88_1 := blk_frozen BK163.out 1
                          have hfz88_2 := blk_frozen BK163.out 2
                          have hfz88_3 := blk_frozen BK163.out 3
                          go_wp2
                          go_ret
                          exact ⟨by first | rfl | (simp [errW_none, errW_some] <;> rfl) | (simp [*, errW_none, errW_some] <;> rfl), by repeat (first | (with_reducible first | exact HB.out | apply below_alloc | apply pw_below_drewN | apply below_drew1 | refine below_set ?_ GE163.out | refine below_set ?_ GE164.out) | exact HB.out)⟩
                        · rw [if_neg c86] at H
                          have c86b0 : decide (16777216 < t175) = false := decide_eq_false c86
                          clear c86
                          by_cases c89 : t176 < 2400
                          · rw [if_pos c89] at H
                            have c89b0 : decide (t176 < 2400) = true := decide_eq_true c89
                            clear c89
                            obtain rfl := Option.some.inj H
                            have hnb90 := NB163_164.out
                            have hnc90 := NB164_163.out
                            have hcz91_0 : w76.cell? ⟨gb163, 0, none⟩ = some (.int .u64 x164000_1) := (blk_cell BK163.out 0).trans rfl
                            have hcz91_1 : w76.cell? ⟨gb163, 1, none⟩ = some (.int .u64 x164001_1) := (blk_cell BK163.out 1).trans rfl
                            have hcz91_2 : w76.cell? ⟨gb163, 2, none⟩ = some (.int .u64 x164002_1) := (blk_cell BK163.out 2).trans rfl
                            have hcz91_3 : w76.cell? ⟨gb163, 3, none⟩ = some (.int .u64 x164003_1) := (blk_cell BK163.out 3).trans rfl
                            have hfz91_0 := blk_frozen BK163.out 0
                            have hfz91_1 := blk_frozen BK163.out 1
                            have hfz91_2 := blk_frozen BK163.out 2
                            have hfz91_3 := blk_frozen BK163.out 3
                            go_wp2
                            go_ret
                            exact ⟨by first | rfl | (simp [errW_none, errW_some] <;> rfl) | (simp [*, errW_none, errW_some] <;> rfl), by repeat (first | (with_reducible first | exact HB.out | apply below_alloc | apply pw_below_drewN | apply below_drew1 | refine below_set ?_ GE163.out | refine below_set ?_ GE164.out) | exact HB.out)⟩
                          · rw [if_neg c89] at H
                            have c89b0 : decide (t176 < 2400) = false := decide_eq_false c89
                            clear c89
                            by_cases c92 : t176 > 16777216
                            · rw [if_pos c92] at H
                              have c92b0 : decide (16777216 < t176) = true := decide_eq_true c92
                              clear c92
                              obtain rfl := Option.some.inj H
                              have hnb93 := NB163_164.out
                              have hnc93 := NB164_163.out
                              have hcz94_0 : w76.cell? ⟨gb163, 0, none⟩ = some (.int .u64 x164000_1) := (blk_cell BK163.out 0).trans rfl
                              have hcz94_1 : w76.cell? ⟨gb163, 1, none⟩ = some (.int .u64 x164001_1) := (blk_cell BK163.out 1).trans rfl
                              have hcz94_2 : w76.cell? ⟨gb163, 2, none⟩ = some (.int .u64 x164002_1) := (blk_cell BK163.out 2).trans rfl
                              have hcz94_3 : w76.cell? ⟨gb163, 3, none⟩ = some (.int .u64 x164003_1) := (blk_cell BK163.out 3).trans rfl
                              have hfz94_0 := blk_frozen BK163.out 0
                              have hfz94_1 := blk_frozen BK163.out 1
                              have hfz94_2 := blk_frozen BK163.out 2
                              have hfz94_3 := blk_frozen BK163.out 3
                              go_wp2
                              go_ret
                              exact ⟨by first | rfl | (simp [errW_none, errW_some] <;> rfl) | (simp [*, errW_none, errW_some] <;> rfl), by repeat (first | (with_reducible first | exact HB.out | apply below_alloc | apply pw_below_drewN | apply below_drew1 | refine below_set ?_ GE163.out | refine below_set ?_ GE164.out) | exact HB.out)⟩
                            · rw [if_neg c92] at H
                              have c92b0 : decide (16777216 < t176) = false := decide_eq_false c92
                              clear c92
                              have H' := Aside0.mk H
                              clear H
                              have hnb95 := NB163_164.out
                              have hnc95 := NB164_163.out
                              have hcz96_0 : w76.cell? ⟨gb163, 0, none⟩ = some (.int .u64 x164000_1) := (blk_cell BK163.out 0).trans rfl
                              have hcz96_1 : w76.cell? ⟨gb163, 1, none⟩ = some (.int .u64 x164001_1) := (blk_cell BK163.out 1).trans rfl
                              have hcz96_2 : w76.cell? ⟨gb163, 2, none⟩ = some (.int .u64 x164002_1) := (blk_cell BK163.out 2).trans rfl
                              have hcz96_3 : w76.cell? ⟨gb163, 3, none⟩ = some (.int .u64 x164003_1) := (blk_cell BK163.out 3).trans rfl
                              have hfz96_0 := blk_frozen BK163.out 0
                              have hfz96_1 := blk_frozen BK163.out 1
                              have hfz96_2 := blk_frozen BK163.out 2
                              have hfz96_3 := blk_frozen BK163.out 3
                              go_wp2
                              go_roundg kj7
                              case measure => have := HK1.out; have := HJ7.out; omega
                              case rel => exact ⟨(wrap64 (x5_1 + 1)), (t175), (t176), (t177), (t178), (by first | rfl | (simp; done) | (simp [*]; done)), H', ⟨by have := HK1.out; have := HJ7.out; omega⟩, ⟨by (with_reducible repeat (first | refine blk_drewN ?_ _ | refine blk_drew ?_ | refine blk_alloc ?_ _)); refine blk_put (cs := #[.int .u64 t175, .int .u64 t176, .int .u64 t177, .int .u64 x164003_1]) ?_ 3 _ rfl; (with_reducible repeat (first | refine blk_drewN ?_ _ | refine blk_drew ?_ | refine blk_alloc ?_ _)); refine blk_put (cs := #[.int .u64 t175, .int .u64 t176, .int .u64 x164002_1, .int .u64 x164003_1]) ?_ 2 _ rfl; (with_reducible repeat (first | refine blk_drewN ?_ _ | refine blk_drew ?_ | refine blk_alloc ?_ _)); refine blk_put (cs := #[.int .u64 t175, .int .u64 x164001_1, .int .u64 x164002_1, .int .u64 x164003_1]) ?_ 1 _ rfl; (with_reducible repeat (first | refine blk_drewN ?_ _ | refine blk_drew ?_ | refine blk_alloc ?_ _)); refine blk_put (cs := #[.int .u64 x164000_1, .int .u64 x164001_1, .int .u64 x164002_1, .int .u64 x164003_1]) ?_ 0 _ rfl; (with_reducible repeat (first | refine blk_drewN ?_ _ | refine blk_drew ?_ | refine blk_alloc ?_ _)); exact BK163.out⟩, ⟨by repeat (first | (with_reducible first | exact HB.out | apply below_alloc | apply pw_below_drewN | apply below_drew1 | refine below_set ?_ GE163.out | refine below_set ?_ GE164.out) | exact HB.out)⟩⟩
                  · rw [if_neg c53] at H
                    have c53b0 : (((rd_T34 l0 x5_1).f0) == 2) = false := beq_eq_false_iff_ne.mpr c53
                    have c53b1 : (((rd_T34 l0 x5_1).f0) != 2) = true := bne_iff_ne.mpr c53
                    by_cases c97 : ((rd_T34 l0 x5_1).f0) = 3
                    · rw [if_pos c97] at H
                      have c97b0 : (((rd_T34 l0 x5_1).f0) == 3) = true := beq_iff_eq.mpr c97
                      have c97b1 : (((rd_T34 l0 x5_1).f0) != 3) = false := bne_eq_false_iff_eq.mpr c97
                      clear c97
                      replace H := Option.bind_eq_some_iff.mp H
                      obtain ⟨⟨t179, t180, t181, t182⟩, A980, H⟩ := H
                      replace H : (if t179 < 2400 then (some false) else (if t179 > 16777216 then (some false) else (if t180 < 2400 then (some false) else (if t180 > 16777216 then (some false) else (wigwaglaw10_RenoHolds.l0 kj7 l0 t158 (wrap64 (x5_1 + 1)) t179 t180 t181 t182))))) = some r := H
                      have A98 := Aside0.mk A980
                      clear A980
                      have HS99 := Aside0.mk H
                      clear H
                      have hcz100_0 : wc.cell? ⟨gb163, 0, none⟩ = some (.int .u64 x164000_1) := (blk_cell BK163.out 0).trans rfl
                      have hcz100_1 : wc.cell? ⟨gb163, 1, none⟩ = some (.int .u64 x164001_1) := (blk_cell BK163.out 1).trans rfl
                      have hcz100_2 : wc.cell? ⟨gb163, 2, none⟩ = some (.int .u64 x164002_1) := (blk_cell BK163.out 2).trans rfl
                      have hcz100_3 : wc.cell? ⟨gb163, 3, none⟩ = some (.int .u64 x164003_1) := (blk_cell BK163.out 3).trans rfl
                      have hfz100_0 := blk_frozen BK163.out 0
                      have hfz100_1 := blk_frozen BK163.out 1
                      have hfz100_2 := blk_frozen BK163.out 2
                      have hfz100_3 := blk_frozen BK163.out 3
                      go_upto_region 18 with (first | ((with_reducible refine gate_dst (N := 6) rfl ?_); refine box_event ?hg (N := 6) ?hd (cs := #[.int .u64 0, .int .u64 0, .int .u64 0, .int .u64 0]) (t := 25) ?hr ?_; (case hd => rfl); (case hg => rfl); (case hr => first | (go_simp; done) | (go_simp; rfl)); intro gb164 hg w101 hbox hb; have n0_ := Aside0.mk (blk_below (g := gb163) (o := .cells #[.int .u64 x164000_1, .int .u64 x164001_1, .int .u64 x164002_1, .int .u64 x164003_1] 25 (0, 0)) (by (with_reducible repeat (first | refine blk_drewN ?_ _ | refine blk_drew ?_ | refine blk_alloc ?_ _)); exact BK163.out) hb); have n1_ := Aside0.mk (below_step (by repeat (first | (with_reducible first | exact HB.out | apply below_alloc | apply pw_below_drewN | apply below_drew1 | refine below_set ?_ GE163.out) | exact HB.out)) hb); have n2_ := Aside0.mk (hbox); have n3_ := Aside0.mk ((by rw [hg]; exact (below_size (by repeat (first | (with_reducible first | exact HB.out | apply below_alloc | apply pw_below_drewN | apply below_drew1 | refine below_set ?_ GE163.out) | exact HB.out))) : w.heap.size ≤ gb164)); have n4_ := Aside0.mk ((by rw [hg]; exact (below_size (by repeat (first | (with_reducible first | exact HB.out | apply below_alloc | apply pw_below_drewN | apply below_drew1 | refine below_set ?_ GE163.out) | exact HB.out))) : w.heap.size ≤ gb164)); have n5_ := Aside0.mk ((by rw [hg]; exact Nat.ne_of_lt (blk_lt (g := gb163) (o := .cells #[.int .u64 x164000_1, .int .u64 x164001_1, .int .u64 x164002_1, .int .u64 x164003_1] 25 (0, 0)) (by (with_reducible repeat (first | refine blk_drewN ?_ _ | refine blk_drew ?_ | refine blk_alloc ?_ _)); exact BK163.out)) : gb163 ≠ gb164)); have n6_ := Aside0.mk ((by rw [hg]; exact Nat.ne_of_gt (blk_lt (g := gb163) (o := .cells #[.int .u64 x164000_1, .int .u64 x164001_1, .int .u64 x164002_1, .int .u64 x164003_1] 25 (0, 0)) (by (with_reducible repeat (first | refine blk_drewN ?_ _ | refine blk_drew ?_ | refine blk_alloc ?_ _)); exact BK163.out)) : gb164 ≠ gb163)); clear BK163; clear HB; have BK163 := n0_; have HB := n1_; have BK164 := n2_; have GW164 := n3_; have GE164 := n4_; have NB163_164 := n5_; have NB164_163 := n6_; clear n0_ n1_ n2_ n3_ n4_ n5_ n6_; clear hb hbox hg; have hnb102 := NB164_163.out; have hnc102 := NB163_164.out; have hcz103_0 : w101.cell? ⟨gb164, 0, none⟩ = some (.int .u64 0) := (blk_cell BK164.out 0).trans rfl; have hcz103_1 : w101.cell? ⟨gb164, 1, none⟩ = some (.int .u64 0) := (blk_cell BK164.out 1).trans rfl; have hcz103_2 : w101.cell? ⟨gb164, 2, none⟩ = some (.int .u64 0) := (blk_cell BK164.out 2).trans rfl; have hcz103_3 : w101.cell? ⟨gb164, 3, none⟩ = some (.int .u64 0) := (blk_cell BK164.out 3).trans rfl; have hfz103_0 := blk_frozen BK164.out 0; have hfz103_1 := blk_frozen BK164.out 1; have hfz103_2 := blk_frozen BK164.out 2; have hfz103_3 := blk_frozen BK164.out 3; have p165 : 0 ≤ (x5_1 : Int) := of_decide_eq_true (by first | (with_reducible assumption) | assumption); have q165 : x5_1 < (l0.length : Int) := of_decide_eq_true (by first | (with_reducible assumption) | assumption); obtain ⟨ad165, e165, hx165_0, hx165_1, hx165_2, hx165_3, hx165_4⟩ := at_T34 HR0.out x5_1 p165 q165; cases e165; have hn165_0 : ad165.block ≠ gb164 := Nat.ne_of_lt (Nat.lt_of_lt_of_le (by have := World.block_lt_of_cell? _ _ hx165_0; first | rwa [add_block] at this | exact this) GW164.out); have hn165_1 : ad165.block ≠ gb164 := Nat.ne_of_lt (Nat.lt_of_lt_of_le (by have := World.block_lt_of_cell? _ _ hx165_0; first | rwa [add_block] at this | exact this) GW164.out); have hn165_2 : ad165.block ≠ gb164 := Nat.ne_of_lt (Nat.lt_of_lt_of_le (by have := World.block_lt_of_cell? _ _ hx165_0; first | rwa [add_block] at this | exact this) GW164.out); have hn165_3 : ad165.block ≠ gb164 := Nat.ne_of_lt (Nat.lt_of_lt_of_le (by have := World.block_lt_of_cell? _ _ hx165_0; first | rwa [add_block] at this | exact this) GW164.out); replace hx165_0 := (HB.out.cell (World.block_lt_of_cell? w _ hx165_0)).trans hx165_0; replace hx165_1 := (HB.out.cell (World.block_lt_of_cell? w _ hx165_1)).trans hx165_1; replace hx165_2 := (HB.out.cell (World.block_lt_of_cell? w _ hx165_2)).trans hx165_2; replace hx165_3 := (HB.out.cell (World.block_lt_of_cell? w _ hx165_3)).trans hx165_3; replace hx165_4 := (HB.out.cell (World.block_lt_of_cell? w _ hx165_4)).trans hx165_4; replace hx165_0 := (cell_far (p := ⟨gb164, 0, none⟩) (by first | (rw [add_block]; exact hn165_0) | (show (Addr.add _ _).block ≠ _; rw [add_block]; exact hn165_0) | exact hn165_0) (.int .u64 x164000_1)).trans hx165_0; replace hx165_1 := (cell_far (p := ⟨gb164, 0, none⟩) (by first | (rw [add_block]; exact hn165_0) | (show (Addr.add _ _).block ≠ _; rw [add_block]; exact hn165_0) | exact hn165_0) (.int .u64 x164000_1)).trans hx165_1; replace hx165_2 := (cell_far (p := ⟨gb164, 0, none⟩) (by first | (rw [add_block]; exact hn165_0) | (show (Addr.add _ _).block ≠ _; rw [add_block]; exact hn165_0) | exact hn165_0) (.int .u64 x164000_1)).trans hx165_2; replace hx165_3 := (cell_far (p := ⟨gb164, 0, none⟩) (by first | (rw [add_block]; exact hn165_0) | (show (Addr.add _ _).block ≠ _; rw [add_block]; exact hn165_0) | exact hn165_0) (.int .u64 x164000_1)).trans hx165_3; replace hx165_4 := (cell_far (p := ⟨gb164, 0, none⟩) (by first | (rw [add_block]; exact hn165_0) | (show (Addr.add _ _).block ≠ _; rw [add_block]; exact hn165_0) | exact hn165_0) (.int .u64 x164000_1)).trans hx165_4; replace hx165_0 := (cell_far (p := ⟨gb164, 1, none⟩) (by first | (rw [add_block]; exact hn165_1) | (show (Addr.add _ _).block ≠ _; rw [add_block]; exact hn165_1) | exact hn165_1) (.int .u64 x164001_1)).trans hx165_0; replace hx165_1 := (cell_far (p := ⟨gb164, 1, none⟩) (by first | (rw [add_block]; exact hn165_1) | (show (Addr.add _ _).block ≠ _; rw [add_block]; exact hn165_1) | exact hn165_1) (.int .u64 x164001_1)).trans hx165_1; replace hx165_2 := (cell_far (p := ⟨gb164, 1, none⟩) (by first | (rw [add_block]; exact hn165_1) | (show (Addr.add _ _).block ≠ _; rw [add_block]; exact hn165_1) | exact hn165_1) (.int .u64 x164001_1)).trans hx165_2; replace hx165_3 := (cell_far (p := ⟨gb164, 1, none⟩) (by first | (rw [add_block]; exact hn165_1) | (show (Addr.add _ _).block ≠ _; rw [add_block]; exact hn165_1) | exact hn165_1) (.int .u64 x164001_1)).trans hx165_3; replace hx165_4 := (cell_far (p := ⟨gb164, 1, none⟩) (by first | (rw [add_block]; exact hn165_1) | (show (Addr.add _ _).block ≠ _; rw [add_block]; exact hn165_1) | exact hn165_1) (.int .u64 x164001_1)).trans hx165_4; replace hx165_0 := (cell_far (p := ⟨gb164, 2, none⟩) (by first | (rw [add_block]; exact hn165_2) | (show (Addr.add _ _).block ≠ _; rw [add_block]; exact hn165_2) | exact hn165_2) (.int .u64 x164002_1)).trans hx165_0; replace hx165_1 := (cell_far (p := ⟨gb164, 2, none⟩) (by first | (rw [add_block]; exact hn165_2) | (show (Addr.add _ _).block ≠ _; rw [add_block]; exact hn165_2) | exact hn165_2) (.int .u64 x164002_1)).trans hx165_1; replace hx165_2 := (cell_far (p := ⟨gb164, 2, none⟩) (by first | (rw [add_block]; exact hn165_2) | (show (Addr.add _ _).block ≠ _; rw [add_block]; exact hn165_2) | exact hn165_2) (.int .u64 x164002_1)).trans hx165_2; replace hx165_3 := (cell_far (p := ⟨gb164, 2, none⟩) (by first | (rw [add_block]; exact hn165_2) | (show (Addr.add _ _).block ≠ _; rw [add_block]; exact hn165_2) | exact hn165_2) (.int .u64 x164002_1)).trans hx165_3; replace hx165_4 := (cell_far (p := ⟨gb164, 2, none⟩) (by first | (rw [add_block]; exact hn165_2) | (show (Addr.add _ _).block ≠ _; rw [add_block]; exact hn165_2) | exact hn165_2) (.int .u64 x164002_1)).trans hx165_4; replace hx165_0 := (cell_far (p := ⟨gb164, 3, none⟩) (by first | (rw [add_block]; exact hn165_3) | (show (Addr.add _ _).block ≠ _; rw [add_block]; exact hn165_3) | exact hn165_3) (.int .u64 x164003_1)).trans hx165_0; replace hx165_1 := (cell_far (p := ⟨gb164, 3, none⟩) (by first | (rw [add_block]; exact hn165_3) | (show (Addr.add _ _).block ≠ _; rw [add_block]; exact hn165_3) | exact hn165_3) (.int .u64 x164003_1)).trans hx165_1; replace hx165_2 := (cell_far (p := ⟨gb164, 3, none⟩) (by first | (rw [add_block]; exact hn165_3) | (show (Addr.add _ _).block ≠ _; rw [add_block]; exact hn165_3) | exact hn165_3) (.int .u64 x164003_1)).trans hx165_2; replace hx165_3 := (cell_far (p := ⟨gb164, 3, none⟩) (by first | (rw [add_block]; exact hn165_3) | (show (Addr.add _ _).block ≠ _; rw [add_block]; exact hn165_3) | exact hn165_3) (.int .u64 x164003_1)).trans hx165_3; replace hx165_4 := (cell_far (p := ⟨gb164, 3, none⟩) (by first | (rw [add_block]; exact hn165_3) | (show (Addr.add _ _).block ≠ _; rw [add_block]; exact hn165_3) | exact hn165_3) (.int .u64 x164003_1)).trans hx165_4; clear hn165_0; clear hn165_1; clear hn165_2; clear hn165_3; replace p165 := eq_true p165; replace q165 := eq_true q165; have hcz104_0 : w101.cell? ⟨gb163, 0, none⟩ = some (.int .u64 x164000_1) := (blk_cell BK163.out 0).trans rfl; have hcz104_1 : w101.cell? ⟨gb163, 1, none⟩ = some (.int .u64 x164001_1) := (blk_cell BK163.out 1).trans rfl; have hcz104_2 : w101.cell? ⟨gb163, 2, none⟩ = some (.int .u64 x164002_1) := (blk_cell BK163.out 2).trans rfl; have hcz104_3 : w101.cell? ⟨gb163, 3, none⟩ = some (.int .u64 x164003_1) := (blk_cell BK163.out 3).trans rfl; have hfz104_0 := blk_frozen BK163.out 0; have hfz104_1 := blk_frozen BK163.out 1; have hfz104_2 := blk_frozen BK163.out 2; have hfz104_3 := blk_frozen BK163.out 3) | ((with_reducible refine gate_callee (f := 15) rfl ?_); refine goesL_ (some 85) rfl rfl Try.func15 (by kernel_rfl) rfl #[.agg #[.int .u64 x164000_1, .int .u64 x164001_1, .int .u64 x164002_1, .int .u64 x164003_1]] rfl (by (try simp only [List.map_toArray, List.map_cons, List.map_nil]); first | done | rfl | (simp only [List.length_drop, List.length_take]; rfl)) ?_; (with_reducible refine (reno_Collapse.calls x164000_1 x164001_1 x164002_1 x164003_1 t179 t180 t181 t182 _ A98.out).mono ?_); rintro e w105 ⟨rfl, hb⟩; refine ⟨_, rfl, ?_⟩; have n0_ := Aside0.mk (blk_below (g := gb163) (o := .cells #[.int .u64 x164000_1, .int .u64 x164001_1, .int .u64 x164002_1, .int .u64 x164003_1] 25 (0, 0)) (by (with_reducible repeat (first | refine blk_drewN ?_ _ | refine blk_drew ?_ | refine blk_alloc ?_ _)); refine blk_far ?_ NB163_164.out _; (with_reducible repeat (first | refine blk_drewN ?_ _ | refine blk_drew ?_ | refine blk_alloc ?_ _)); refine blk_far ?_ NB163_164.out _; (with_reducible repeat (first | refine blk_drewN ?_ _ | refine blk_drew ?_ | refine blk_alloc ?_ _)); refine blk_far ?_ NB163_164.out _; (with_reducible repeat (first | refine blk_drewN ?_ _ | refine blk_drew ?_ | refine blk_alloc ?_ _)); refine blk_far ?_ NB163_164.out _; (with_reducible repeat (first | refine blk_drewN ?_ _ | refine blk_drew ?_ | refine blk_alloc ?_ _)); exact BK163.out) hb); have n1_ := Aside0.mk (blk_below (g := gb164) (o := .cells #[.int .u64 x164000_1, .int .u64 x164001_1, .int .u64 x164002_1, .int .u64 x164003_1] 25 (0, 0)) (by (with_reducible repeat (first | refine blk_drewN ?_ _ | refine blk_drew ?_ | refine blk_alloc ?_ _)); refine blk_put (cs := #[.int .u64 x164000_1, .int .u64 x164001_1, .int .u64 x164002_1, .int .u64 0]) ?_ 3 _ rfl; (with_reducible repeat (first | refine blk_drewN ?_ _ | refine blk_drew ?_ | refine blk_alloc ?_ _)); refine blk_put (cs := #[.int .u64 x164000_1, .int .u64 x164001_1, .int .u64 0, .int .u64 0]) ?_ 2 _ rfl; (with_reducible repeat (first | refine blk_drewN ?_ _ | refine blk_drew ?_ | refine blk_alloc ?_ _)); refine blk_put (cs := #[.int .u64 x164000_1, .int .u64 0, .int .u64 0, .int .u64 0]) ?_ 1 _ rfl; (with_reducible repeat (first | refine blk_drewN ?_ _ | refine blk_drew ?_ | refine blk_alloc ?_ _)); refine blk_put (cs := #[.int .u64 0, .int .u64 0, .int .u64 0, .int .u64 0]) ?_ 0 _ rfl; (with_reducible repeat (first | refine blk_drewN ?_ _ | refine blk_drew ?_ | refine blk_alloc ?_ _)); exact BK164.out) hb); have n2_ := Aside0.mk (below_step (by repeat (first | (with_reducible first | exact HB.out | apply below_alloc | apply pw_below_drewN | apply below_drew1 | refine below_set ?_ GE163.out | refine below_set ?_ GE164.out) | exact HB.out)) hb); clear BK163; clear BK164; clear HB; have BK163 := n0_; have BK164 := n1_; have HB := n2_; clear n0_ n1_ n2_; (try clear hb); (try clear hb2); (try clear hk); (try clear hi); have hcz106_0 : w105.cell? ⟨gb163, 0, none⟩ = some (.int .u64 x164000_1) := (blk_cell BK163.out 0).trans rfl; have hcz106_1 : w105.cell? ⟨gb163, 1, none⟩ = some (.int .u64 x164001_1) := (blk_cell BK163.out 1).trans rfl; have hcz106_2 : w105.cell? ⟨gb163, 2, none⟩ = some (.int .u64 x164002_1) := (blk_cell BK163.out 2).trans rfl; have hcz106_3 : w105.cell? ⟨gb163, 3, none⟩ = some (.int .u64 x164003_1) := (blk_cell BK163.out 3).trans rfl; have hfz106_0 := blk_frozen BK163.out 0; have hfz106_1 := blk_frozen BK163.out 1; have hfz106_2 := blk_frozen BK163.out 2; have hfz106_3 := blk_frozen BK163.out 3))
                      (try simp only [Act.put, List.setIfInBounds_toArray, List.set_cons_zero, List.set_cons_succ])
                      have H := HS99.out
                      clear HS99
                      by_cases c107 : t179 < 2400
                      · rw [if_pos c107] at H
                        have c107b0 : decide (t179 < 2400) = true := decide_eq_true c107
                        clear c107
                        obtain rfl := Option.some.inj H
                        have hnb108 := NB163_164.out
                        have hnc108 := NB164_163.out
                        have hcz109_0 : w105.cell? ⟨gb163, 0, none⟩ = some (.int .u64 x164000_1) := (blk_cell BK163.out 0).trans rfl
                        have hcz109_1 : w105.cell? ⟨gb163, 1, none⟩ = some (.int .u64 x164001_1) := (blk_cell BK163.out 1).trans rfl
                        have hcz109_2 : w105.cell? ⟨gb163, 2, none⟩ = some (.int .u64 x164002_1) := (blk_cell BK163.out 2).trans rfl
                        have hcz109_3 : w105.cell? ⟨gb163, 3, none⟩ = some (.int .u64 x164003_1) := (blk_cell BK163.out 3).trans rfl
                        have hfz109_0 := blk_frozen BK163.out 0
                        have hfz109_1 := blk_frozen BK163.out 1
                        have hfz109_2 := blk_frozen BK163.out 2
                        have hfz109_3 := blk_frozen BK163.out 3
                        go_wp2
                        go_ret
                        exact ⟨by first | rfl | (simp [errW_none, errW_some] <;> rfl) | (simp [*, errW_none, errW_some] <;> rfl), by repeat (first | (with_reducible first | exact HB.out | apply below_alloc | apply pw_below_drewN | apply below_drew1 | refine below_set ?_ GE163.out | refine below_set ?_ GE164.out) | exact HB.out)⟩
                      · rw [if_neg c107] at H
                        have c107b0 : decide (t179 < 2400) = false := decide_eq_false c107
                        clear c107
                        by_cases c110 : t179 > 16777216
                        · rw [if_pos c110] at H
                          have c110b0 : decide (16777216 < t179) = true := decide_eq_true c110
                          clear c110
                          obtain rfl := Option.some.inj H
                          have hnb111 := NB163_164.out
                          have hnc111 := NB164_163.out
                          have hcz112_0 : w105.cell? ⟨gb163, 0, none⟩ = some (.int .u64 x164000_1) := (blk_cell BK163.out 0).trans rfl
                          have hcz112_1 : w105.cell? ⟨gb163, 1, none⟩ = some (.int .u64 x164001_1) := (blk_cell BK163.out 1).trans rfl
                          have hcz112_2 : w105.cell? ⟨gb163, 2, none⟩ = some (.int .u64 x164002_1) := (blk_cell BK163.out 2).trans rfl
                          have hcz112_3 : w105.cell? ⟨gb163, 3, none⟩ = some (.int .u64 x164003_1) := (blk_cell BK163.out 3).trans rfl
                          have hfz112_0 := blk_frozen BK163.out 0
                          have hfz112_1 := blk_frozen BK163.out 1
                          have hfz112_2 := blk_frozen BK163.out 2
                          have hfz112_3 := blk_frozen BK163.out 3
                          go_wp2
                          go_ret
                          exact ⟨by first | rfl | (simp [errW_none, errW_some] <;> rfl) | (simp [*, errW_none, errW_some] <;> rfl), by repeat (first | (with_reducible first | exact HB.out | apply below_alloc | apply pw_below_drewN | apply below_drew1 | refine below_set ?_ GE163.out | refine below_set ?_ GE164.out) | exact HB.out)⟩
                        · rw [if_neg c110] at H
                          have c110b0 : decide (16777216 < t179) = false := decide_eq_false c110
                          clear c110
                          by_cases c113 : t180 < 2400
                          · rw [if_pos c113] at H
                            have c113b0 : decide (t180 < 2400) = true := decide_eq_true c113
                            clear c113
                            obtain rfl := Option.some.inj H
                            have hnb114 := NB163_164.out
                            have hnc114 := NB164_163.out
                            have hcz115_0 : w105.cell? ⟨gb163, 0, none⟩ = some (.int .u64 x164000_1) := (blk_cell BK163.out 0).trans rfl
                            have hcz115_1 : w105.cell? ⟨gb163, 1, none⟩ = some (.int .u64 x164001_1) := (blk_cell BK163.out 1).trans rfl
                            have hcz115_2 : w105.cell? ⟨gb163, 2, none⟩ = some (.int .u64 x164002_1) := (blk_cell BK163.out 2).trans rfl
                            have hcz115_3 : w105.cell? ⟨gb163, 3, none⟩ = some (.int .u64 x164003_1) := (blk_cell BK163.out 3).trans rfl
                            have hfz115_0 := blk_frozen BK163.out 0
                            have hfz115_1 := blk_frozen BK163.out 1
                            have hfz115_2 := blk_frozen BK163.out 2
                            have hfz115_3 := blk_frozen BK163.out 3
                            go_wp2
                            go_ret
                            exact ⟨by first | rfl | (simp [errW_none, errW_some] <;> rfl) | (simp [*, errW_none, errW_some] <;> rfl), by repeat (first | (with_reducible first | exact HB.out | apply below_alloc | apply pw_below_drewN | apply below_drew1 | refine below_set ?_ GE163.out | refine below_set ?_ GE164.out) | exact HB.out)⟩
                          · rw [if_neg c113] at H
                            have c113b0 : decide (t180 < 2400) = false := decide_eq_false c113
                            clear c113
                            by_cases c116 : t180 > 16777216
                            · rw [if_pos c116] at H
                              have c116b0 : decide (16777216 < t180) = true := decide_eq_true c116
                              clear c116
                              obtain rfl := Option.some.inj H
                              have hnb117 := NB163_164.out
                              have hnc117 := NB164_163.out
                              have hcz118_0 : w105.cell? ⟨gb163, 0, none⟩ = some (.int .u64 x164000_1) := (blk_cell BK163.out 0).trans rfl
                              have hcz118_1 : w105.cell? ⟨gb163, 1, none⟩ = some (.int .u64 x164001_1) := (blk_cell BK163.out 1).trans rfl
                              have hcz118_2 : w105.cell? ⟨gb163, 2, none⟩ = some (.int .u64 x164002_1) := (blk_cell BK163.out 2).trans rfl
                              have hcz118_3 : w105.cell? ⟨gb163, 3, none⟩ = some (.int .u64 x164003_1) := (blk_cell BK163.out 3).trans rfl
                              have hfz118_0 := blk_frozen BK163.out 0
                              have hfz118_1 := blk_frozen BK163.out 1
                              have hfz118_2 := blk_frozen BK163.out 2
                              have hfz118_3 := blk_frozen BK163.out 3
                              go_wp2
                              go_ret
                              exact ⟨by first | rfl | (simp [errW_none, errW_some] <;> rfl) | (simp [*, errW_none, errW_some] <;> rfl), by repeat (first | (with_reducible first | exact HB.out | apply below_alloc | apply pw_below_drewN | apply below_drew1 | refine below_set ?_ GE163.out | refine below_set ?_ GE164.out) | exact HB.out)⟩
                            · rw [if_neg c116] at H
                              have c116b0 : decide (16777216 < t180) = false := decide_eq_false c116
                              clear c116
                              have H' := Aside0.mk H
                              clear H
                              have hnb119 := NB163_164.out
                              have hnc119 := NB164_163.out
                              have hcz120_0 : w105.cell? ⟨gb163, 0, none⟩ = some (.int .u64 x164000_1) := (blk_cell BK163.out 0).trans rfl
                              have hcz120_1 : w105.cell? ⟨gb163, 1, none⟩ = some (.int .u64 x164001_1) := (blk_cell BK163.out 1).trans rfl
                              have hcz120_2 : w105.cell? ⟨gb163, 2, none⟩ = some (.int .u64 x164002_1) := (blk_cell BK163.out 2).trans rfl
                              have hcz120_3 : w105.cell? ⟨gb163, 3, none⟩ = some (.int .u64 x164003_1) := (blk_cell BK163.out 3).trans rfl
                              have hfz120_0 := blk_frozen BK163.out 0
                              have hfz120_1 := blk_frozen BK163.out 1
                              have hfz120_2 := blk_frozen BK163.out 2
                              have hfz120_3 := blk_frozen BK163.out 3
                              go_wp2
                              go_roundg kj7
                              case measure => have := HK1.out; have := HJ7.out; omega
                              case rel => exact ⟨(wrap64 (x5_1 + 1)), (t179), (t180), (t181), (t182), (by first | rfl | (simp; done) | (simp [*]; done)), H', ⟨by have := HK1.out; have := HJ7.out; omega⟩, ⟨by (with_reducible repeat (first | refine blk_drewN ?_ _ | refine blk_drew ?_ | refine blk_alloc ?_ _)); refine blk_put (cs := #[.int .u64 t179, .int .u64 t180, .int .u64 t181, .int .u64 x164003_1]) ?_ 3 _ rfl; (with_reducible repeat (first | refine blk_drewN ?_ _ | refine blk_drew ?_ | refine blk_alloc ?_ _)); refine blk_put (cs := #[.int .u64 t179, .int .u64 t180, .int .u64 x164002_1, .int .u64 x164003_1]) ?_ 2 _ rfl; (with_reducible repeat (first | refine blk_drewN ?_ _ | refine blk_drew ?_ | refine blk_alloc ?_ _)); refine blk_put (cs := #[.int .u64 t179, .int .u64 x164001_1, .int .u64 x164002_1, .int .u64 x164003_1]) ?_ 1 _ rfl; (with_reducible repeat (first | refine blk_drewN ?_ _ | refine blk_drew ?_ | refine blk_alloc ?_ _)); refine blk_put (cs := #[.int .u64 x164000_1, .int .u64 x164001_1, .int .u64 x164002_1, .int .u64 x164003_1]) ?_ 0 _ rfl; (with_reducible repeat (first | refine blk_drewN ?_ _ | refine blk_drew ?_ | refine blk_alloc ?_ _)); exact BK163.out⟩, ⟨by repeat (first | (with_reducible first | exact HB.out | apply below_alloc | apply pw_below_drewN | apply below_drew1 | refine below_set ?_ GE163.out | refine below_set ?_ GE164.out) | exact HB.out)⟩⟩
                    · rw [if_neg c97] at H
                      have c97b0 : (((rd_T34 l0 x5_1).f0) == 3) = false := beq_eq_false_iff_ne.mpr c97
                      have c97b1 : (((rd_T34 l0 x5_1).f0) != 3) = true := bne_iff_ne.mpr c97
                      have HS121 := Aside0.mk H
                      clear H
                      have hcz122_0 : wc.cell? ⟨gb163, 0, none⟩ = some (.int .u64 x164000_1) := (blk_cell BK163.out 0).trans rfl
                      have hcz122_1 : wc.cell? ⟨gb163, 1, none⟩ = some (.int .u64 x164001_1) := (blk_cell BK163.out 1).trans rfl
                      have hcz122_2 : wc.cell? ⟨gb163, 2, none⟩ = some (.int .u64 x164002_1) := (blk_cell BK163.out 2).trans rfl
                      have hcz122_3 : wc.cell? ⟨gb163, 3, none⟩ = some (.int .u64 x164003_1) := (blk_cell BK163.out 3).trans rfl
                      have hfz122_0 := blk_frozen BK163.out 0
                      have hfz122_1 := blk_frozen BK163.out 1
                      have hfz122_2 := blk_frozen BK163.out 2
                      have hfz122_3 := blk_frozen BK163.out 3
                      go_upto_region 18 with (first | ((with_reducible refine gate_dst (N := 6) rfl ?_); refine box_event ?hg (N := 6) ?hd (cs := #[.int .u64 0, .int .u64 0, .int .u64 0, .int .u64 0]) (t := 25) ?hr ?_; (case hd => rfl); (case hg => rfl); (case hr => first | (go_simp; done) | (go_simp; rfl)); intro gb164 hg w123 hbox hb; have n0_ := Aside0.mk (blk_below (g := gb163) (o := .cells #[.int .u64 x164000_1, .int .u64 x164001_1, .int .u64 x164002_1, .int .u64 x164003_1] 25 (0, 0)) (by (with_reducible repeat (first | refine blk_drewN ?_ _ | refine blk_drew ?_ | refine blk_alloc ?_ _)); exact BK163.out) hb); have n1_ := Aside0.mk (below_step (by repeat (first | (with_reducible first | exact HB.out | apply below_alloc | apply pw_below_drewN | apply below_drew1 | refine below_set ?_ GE163.out) | exact HB.out)) hb); have n2_ := Aside0.mk (hbox); have n3_ := Aside0.mk ((by rw [hg]; exact (below_size (by repeat (first | (with_reducible first | exact HB.out | apply below_alloc | apply pw_below_drewN | apply below_drew1 | refine below_set ?_ GE163.out) | exact HB.out))) : w.heap.size ≤ gb164)); have n4_ := Aside0.mk ((by rw [hg]; exact (below_size (by repeat (first | (with_reducible first | exact HB.out | apply below_alloc | apply pw_below_drewN | apply below_drew1 | refine below_set ?_ GE163.out) | exact HB.out))) : w.heap.size ≤ gb164)); have n5_ := Aside0.mk ((by rw [hg]; exact Nat.ne_of_lt (blk_lt (g := gb163) (o := .cells #[.int .u64 x164000_1, .int .u64 x164001_1, .int .u64 x164002_1, .int .u64 x164003_1] 25 (0, 0)) (by (with_reducible repeat (first | refine blk_drewN ?_ _ | refine blk_drew ?_ | refine blk_alloc ?_ _)); exact BK163.out)) : gb163 ≠ gb164)); have n6_ := Aside0.mk ((by rw [hg]; exact Nat.ne_of_gt (blk_lt (g := gb163) (o := .cells #[.int .u64 x164000_1, .int .u64 x164001_1, .int .u64 x164002_1, .int .u64 x164003_1] 25 (0, 0)) (by (with_reducible repeat (first | refine blk_drewN ?_ _ | refine blk_drew ?_ | refine blk_alloc ?_ _)); exact BK163.out)) : gb164 ≠ gb163)); clear BK163; clear HB; have BK163 := n0_; have HB := n1_; have BK164 := n2_; have GW164 := n3_; have GE164 := n4_; have NB163_164 := n5_; have NB164_163 := n6_; clear n0_ n1_ n2_ n3_ n4_ n5_ n6_; clear hb hbox hg; have hnb124 := NB164_163.out; have hnc124 := NB163_164.out; have hcz125_0 : w123.cell? ⟨gb164, 0, none⟩ = some (.int .u64 0) := (blk_cell BK164.out 0).trans rfl; have hcz125_1 : w123.cell? ⟨gb164, 1, none⟩ = some (.int .u64 0) := (blk_cell BK164.out 1).trans rfl; have hcz125_2 : w123.cell? ⟨gb164, 2, none⟩ = some (.int .u64 0) := (blk_cell BK164.out 2).trans rfl; have hcz125_3 : w123.cell? ⟨gb164, 3, none⟩ = some (.int .u64 0) := (blk_cell BK164.out 3).trans rfl; have hfz125_0 := blk_frozen BK164.out 0; have hfz125_1 := blk_frozen BK164.out 1; have hfz125_2 := blk_frozen BK164.out 2; have hfz125_3 := blk_frozen BK164.out 3; have p165 : 0 ≤ (x5_1 : Int) := of_decide_eq_true (by first | (with_reducible assumption) | assumption); have q165 : x5_1 < (l0.length : Int) := of_decide_eq_true (by first | (with_reducible assumption) | assumption); obtain ⟨ad165, e165, hx165_0, hx165_1, hx165_2, hx165_3, hx165_4⟩ := at_T34 HR0.out x5_1 p165 q165; cases e165; have hn165_0 : ad165.block ≠ gb164 := Nat.ne_of_lt (Nat.lt_of_lt_of_le (by have := World.block_lt_of_cell? _ _ hx165_0; first | rwa [add_block] at this | exact this) GW164.out); have hn165_1 : ad165.block ≠ gb164 := Nat.ne_of_lt (Nat.lt_of_lt_of_le (by have := World.block_lt_of_cell? _ _ hx165_0; first | rwa [add_block] at this | exact this) GW164.out); have hn165_2 : ad165.block ≠ gb164 := Nat.ne_of_lt (Nat.lt_of_lt_of_le (by have := World.block_lt_of_cell? _ _ hx165_0; first | rwa [add_block] at this | exact this) GW164.out); have hn165_3 : ad165.block ≠ gb164 := Nat.ne_of_lt (Nat.lt_of_lt_of_le (by have := World.block_lt_of_cell? _ _ hx165_0; first | rwa [add_block] at this | exact this) GW164.out); replace hx165_0 := (HB.out.cell (World.block_lt_of_cell? w _ hx165_0)).trans hx165_0; replace hx165_1 := (HB.out.cell (World.block_lt_of_cell? w _ hx165_1)).trans hx165_1; replace hx165_2 := (HB.out.cell (World.block_lt_of_cell? w _ hx165_2)).trans hx165_2; replace hx165_3 := (HB.out.cell (World.block_lt_of_cell? w _ hx165_3)).trans hx165_3; replace hx165_4 := (HB.out.cell (World.block_lt_of_cell? w _ hx165_4)).trans hx165_4; replace hx165_0 := (cell_far (p := ⟨gb164, 0, none⟩) (by first | (rw [add_block]; exact hn165_0) | (show (Addr.add _ _).block ≠ _; rw [add_block]; exact hn165_0) | exact hn165_0) (.int .u64 x164000_1)).trans hx165_0; replace hx165_1 := (cell_far (p := ⟨gb164, 0, none⟩) (by first | (rw [add_block]; exact hn165_0) | (show (Addr.add _ _).block ≠ _; rw [add_block]; exact hn165_0) | exact hn165_0) (.int .u64 x164000_1)).trans hx165_1; replace hx165_2 := (cell_far (p := ⟨gb164, 0, none⟩) (by first | (rw [add_block]; exact hn165_0) | (show (Addr.add _ _).block ≠ _; rw [add_block]; exact hn165_0) | exact hn165_0) (.int .u64 x164000_1)).trans hx165_2; replace hx165_3 := (cell_far (p := ⟨gb164, 0, none⟩) (by first | (rw [add_block]; exact hn165_0) | (show (Addr.add _ _).block ≠ _; rw [add_block]; exact hn165_0) | exact hn165_0) (.int .u64 x164000_1)).trans hx165_3; replace hx165_4 := (cell_far (p := ⟨gb164, 0, none⟩) (by first | (rw [add_block]; exact hn165_0) | (show (Addr.add _ _).block ≠ _; rw [add_block]; exact hn165_0) | exact hn165_0) (.int .u64 x164000_1)).trans hx165_4; replace hx165_0 := (cell_far (p := ⟨gb164, 1, none⟩) (by first | (rw [add_block]; exact hn165_1) | (show (Addr.add _ _).block ≠ _; rw [add_block]; exact hn165_1) | exact hn165_1) (.int .u64 x164001_1)).trans hx165_0; replace hx165_1 := (cell_far (p := ⟨gb164, 1, none⟩) (by first | (rw [add_block]; exact hn165_1) | (show (Addr.add _ _).block ≠ _; rw [add_block]; exact hn165_1) | exact hn165_1) (.int .u64 x164001_1)).trans hx165_1; replace hx165_2 := (cell_far (p := ⟨gb164, 1, none⟩) (by first | (rw [add_block]; exact hn165_1) | (show (Addr.add _ _).block ≠ _; rw [add_block]; exact hn165_1) | exact hn165_1) (.int .u64 x164001_1)).trans hx165_2; replace hx165_3 := (cell_far (p := ⟨gb164, 1, none⟩) (by first | (rw [add_block]; exact hn165_1) | (show (Addr.add _ _).block ≠ _; rw [add_block]; exact hn165_1) | exact hn165_1) (.int .u64 x164001_1)).trans hx165_3; replace hx165_4 := (cell_far (p := ⟨gb164, 1, none⟩) (by first | (rw [add_block]; exact hn165_1) | (show (Addr.add _ _).block ≠ _; rw [add_block]; exact hn165_1) | exact hn165_1) (.int .u64 x164001_1)).trans hx165_4; replace hx165_0 := (cell_far (p := ⟨gb164, 2, none⟩) (by first | (rw [add_block]; exact hn165_2) | (show (Addr.add _ _).block ≠ _; rw [add_block]; exact hn165_2) | exact hn165_2) (.int .u64 x164002_1)).trans hx165_0; replace hx165_1 := (cell_far (p := ⟨gb164, 2, none⟩) (by first | (rw [add_block]; exact hn165_2) | (show (Addr.add _ _).block ≠ _; rw [add_block]; exact hn165_2) | exact hn165_2) (.int .u64 x164002_1)).trans hx165_1; replace hx165_2 := (cell_far (p := ⟨gb164, 2, none⟩) (by first | (rw [add_block]; exact hn165_2) | (show (Addr.add _ _).block ≠ _; rw [add_block]; exact hn165_2) | exact hn165_2) (.int .u64 x164002_1)).trans hx165_2; replace hx165_3 := (cell_far (p := ⟨gb164, 2, none⟩) (by first | (rw [add_block]; exact hn165_2) | (show (Addr.add _ _).block ≠ _; rw [add_block]; exact hn165_2) | exact hn165_2) (.int .u64 x164002_1)).trans hx165_3; replace hx165_4 := (cell_far (p := ⟨gb164, 2, none⟩) (by first | (rw [add_block]; exact hn165_2) | (show (Addr.add _ _).block ≠ _; rw [add_block]; exact hn165_2) | exact hn165_2) (.int .u64 x164002_1)).trans hx165_4; replace hx165_0 := (cell_far (p := ⟨gb164, 3, none⟩) (by first | (rw [add_block]; exact hn165_3) | (show (Addr.add _ _).block ≠ _; rw [add_block]; exact hn165_3) | exact hn165_3) (.int .u64 x164003_1)).trans hx165_0; replace hx165_1 := (cell_far (p := ⟨gb164, 3, none⟩) (by first | (rw [add_block]; exact hn165_3) | (show (Addr.add _ _).block ≠ _; rw [add_block]; exact hn165_3) | exact hn165_3) (.int .u64 x164003_1)).trans hx165_1; replace hx165_2 := (cell_far (p := ⟨gb164, 3, none⟩) (by first | (rw [add_block]; exact hn165_3) | (show (Addr.add _ _).block ≠ _; rw [add_block]; exact hn165_3) | exact hn165_3) (.int .u64 x164003_1)).trans hx165_2; replace hx165_3 := (cell_far (p := ⟨gb164, 3, none⟩) (by first | (rw [add_block]; exact hn165_3) | (show (Addr.add _ _).block ≠ _; rw [add_block]; exact hn165_3) | exact hn165_3) (.int .u64 x164003_1)).trans hx165_3; replace hx165_4 := (cell_far (p := ⟨gb164, 3, none⟩) (by first | (rw [add_block]; exact hn165_3) | (show (Addr.add _ _).block ≠ _; rw [add_block]; exact hn165_3) | exact hn165_3) (.int .u64 x164003_1)).trans hx165_4; clear hn165_0; clear hn165_1; clear hn165_2; clear hn165_3; replace p165 := eq_true p165; replace q165 := eq_true q165))
                      (try simp only [Act.put, List.setIfInBounds_toArray, List.set_cons_zero, List.set_cons_succ])
                      have H := HS121.out
                      clear HS121
                      by_cases c126 : x164000_1 < 2400
                      · rw [if_pos c126] at H
                        have c126b0 : decide (x164000_1 < 2400) = true := decide_eq_true c126
                        clear c126
                        obtain rfl := Option.some.inj H
                        have hnb127 := NB163_164.out
                        have hnc127 := NB164_163.out
                        have hcz128_0 : w123.cell? ⟨gb163, 0, none⟩ = some (.int .u64 x164000_1) := (blk_cell BK163.out 0).trans rfl
                        have hcz128_1 : w123.cell? ⟨gb163, 1, none⟩ = some (.int .u64 x164001_1) := (blk_cell BK163.out 1).trans rfl
                        have hcz128_2 : w123.cell? ⟨gb163, 2, none⟩ = some (.int .u64 x164002_1) := (blk_cell BK163.out 2).trans rfl
                        have hcz128_3 : w123.cell? ⟨gb163, 3, none⟩ = some (.int .u64 x164003_1) := (blk_cell BK163.out 3).trans rfl
                        have hfz128_0 := blk_frozen BK163.out 0
                        have hfz128_1 := blk_frozen BK163.out 1
                        have hfz128_2 := blk_frozen BK163.out 2
                        have hfz128_3 := blk_frozen BK163.out 3
                        go_wp2
                        go_ret
                        exact ⟨by first | rfl | (simp [errW_none, errW_some] <;> rfl) | (simp [*, errW_none, errW_some] <;> rfl), by repeat (first | (with_reducible first | exact HB.out | apply below_alloc | apply pw_below_drewN | apply below_drew1 | refine below_set ?_ GE163.out | refine below_set ?_ GE164.out) | exact HB.out)⟩
                      · rw [if_neg c126] at H
                        have c126b0 : decide (x164000_1 < 2400) = false := decide_eq_false c126
                        clear c126
                        by_cases c129 : x164000_1 > 16777216
                        · rw [if_pos c129] at H
                          have c129b0 : decide (16777216 < x164000_1) = true := decide_eq_true c129
                          clear c129
                          obtain rfl := Option.some.inj H
                          have hnb130 := NB163_164.out
                          have hnc130 := NB164_163.out
                          have hcz131_0 : w123.cell? ⟨gb163, 0, none⟩ = some (.int .u64 x164000_1) := (blk_cell BK163.out 0).trans rfl
                          have hcz131_1 : w123.cell? ⟨gb163, 1, none⟩ = some (.int .u64 x164001_1) := (blk_cell BK163.out 1).trans rfl
                          have hcz131_2 : w123.cell? ⟨gb163, 2, none⟩ = some (.int .u64 x164002_1) := (blk_cell BK163.out 2).trans rfl
                          have hcz131_3 : w123.cell? ⟨gb163, 3, none⟩ = some (.int .u64 x164003_1) := (blk_cell BK163.out 3).trans rfl
                          have hfz131_0 := blk_frozen BK163.out 0
                          have hfz131_1 := blk_frozen BK163.out 1
                          have hfz131_2 := blk_frozen BK163.out 2
                          have hfz131_3 := blk_frozen BK163.out 3
                          go_wp2
                          go_ret
                          exact ⟨by first | rfl | (simp [errW_none, errW_some] <;> rfl) | (simp [*, errW_none, errW_some] <;> rfl), by repeat (first | (with_reducible first | exact HB.out | apply below_alloc | apply pw_below_drewN | apply below_drew1 | refine below_set ?_ GE163.out | refine below_set ?_ GE164.out) | exact HB.out)⟩
                        · rw [if_neg c129] at H
                          have c129b0 : decide (16777216 < x164000_1) = false := decide_eq_false c129
                          clear c129
                          by_cases c132 : x164001_1 < 2400
                          · rw [if_pos c132] at H
                            have c132b0 : decide (x164001_1 < 2400) = true := decide_eq_true c132
                            clear c132
                            obtain rfl := Option.some.inj H
                            have hnb133 := NB163_164.out
                            have hnc133 := NB164_163.out
                            have hcz134_0 : w123.cell? ⟨gb163, 0, none⟩ = some (.int .u64 x164000_1) := (blk_cell BK163.out 0).trans rfl
                            have hcz134_1 : w123.cell? ⟨gb163, 1, none⟩ = some (.int .u64 x164001_1) := (blk_cell BK163.out 1).trans rfl
                            have hcz134_2 : w123.cell? ⟨gb163, 2, none⟩ = some (.int .u64 x164002_1) := (blk_cell BK163.out 2).trans rfl
                            have hcz134_3 : w123.cell? ⟨gb163, 3, none⟩ = some (.int .u64 x164003_1) := (blk_cell BK163.out 3).trans rfl
                            have hfz134_0 := blk_frozen BK163.out 0
                            have hfz134_1 := blk_frozen BK163.out 1
                            have hfz134_2 := blk_frozen BK163.out 2
                            have hfz134_3 := blk_frozen BK163.out 3
                            go_wp2
                            go_ret
                            exact ⟨by first | rfl | (simp [errW_none, errW_some] <;> rfl) | (simp [*, errW_none, errW_some] <;> rfl), by repeat (first | (with_reducible first | exact HB.out | apply below_alloc | apply pw_below_drewN | apply below_drew1 | refine below_set ?_ GE163.out | refine below_set ?_ GE164.out) | exact HB.out)⟩
                          · rw [if_neg c132] at H
                            have c132b0 : decide (x164001_1 < 2400) = false := decide_eq_false c132
                            clear c132
                            by_cases c135 : x164001_1 > 16777216
                            · rw [if_pos c135] at H
                              have c135b0 : decide (16777216 < x164001_1) = true := decide_eq_true c135
                              clear c135
                              obtain rfl := Option.some.inj H
                              have hnb136 := NB163_164.out
                              have hnc136 := NB164_163.out
                              have hcz137_0 : w123.cell? ⟨gb163, 0, none⟩ = some (.int .u64 x164000_1) := (blk_cell BK163.out 0).trans rfl
                              have hcz137_1 : w123.cell? ⟨gb163, 1, none⟩ = some (.int .u64 x164001_1) := (blk_cell BK163.out 1).trans rfl
                              have hcz137_2 : w123.cell? ⟨gb163, 2, none⟩ = some (.int .u64 x164002_1) := (blk_cell BK163.out 2).trans rfl
                              have hcz137_3 : w123.cell? ⟨gb163, 3, none⟩ = some (.int .u64 x164003_1) := (blk_cell BK163.out 3).trans rfl
                              have hfz137_0 := blk_frozen BK163.out 0
                              have hfz137_1 := blk_frozen BK163.out 1
                              have hfz137_2 := blk_frozen BK163.out 2
                              have hfz137_3 := blk_frozen BK163.out 3
                              go_wp2
                              go_ret
                              exact ⟨by first | rfl | (simp [errW_none, errW_some] <;> rfl) | (simp [*, errW_none, errW_some] <;> rfl), by repeat (first | (with_reducible first | exact HB.out | apply below_alloc | apply pw_below_drewN | apply below_drew1 | refine below_set ?_ GE163.out | refine below_set ?_ GE164.out) | exact HB.out)⟩
                            · rw [if_neg c135] at H
                              have c135b0 : decide (16777216 < x164001_1) = false := decide_eq_false c135
                              clear c135
                              have H' := Aside0.mk H
                              clear H
                              have hnb138 := NB163_164.out
                              have hnc138 := NB164_163.out
                              have hcz139_0 : w123.cell? ⟨gb163, 0, none⟩ = some (.int .u64 x164000_1) := (blk_cell BK163.out 0).trans rfl
                              have hcz139_1 : w123.cell? ⟨gb163, 1, none⟩ = some (.int .u64 x164001_1) := (blk_cell BK163.out 1).trans rfl
                              have hcz139_2 : w123.cell? ⟨gb163, 2, none⟩ = some (.int .u64 x164002_1) := (blk_cell BK163.out 2).trans rfl
                              have hcz139_3 : w123.cell? ⟨gb163, 3, none⟩ = some (.int .u64 x164003_1) := (blk_cell BK163.out 3).trans rfl
                              have hfz139_0 := blk_frozen BK163.out 0
                              have hfz139_1 := blk_frozen BK163.out 1
                              have hfz139_2 := blk_frozen BK163.out 2
                              have hfz139_3 := blk_frozen BK163.out 3
                              go_wp2
                              go_roundg kj7
                              case measure => have := HK1.out; have := HJ7.out; omega
                              case rel => exact ⟨(wrap64 (x5_1 + 1)), (x164000_1), (x164001_1), (x164002_1), (x164003_1), (by first | rfl | (simp; done) | (simp [*]; done)), H', ⟨by have := HK1.out; have := HJ7.out; omega⟩, ⟨by (with_reducible repeat (first | refine blk_drewN ?_ _ | refine blk_drew ?_ | refine blk_alloc ?_ _)); refine blk_far ?_ NB163_164.out _; (with_reducible repeat (first | refine blk_drewN ?_ _ | refine blk_drew ?_ | refine blk_alloc ?_ _)); refine blk_far ?_ NB163_164.out _; (with_reducible repeat (first | refine blk_drewN ?_ _ | refine blk_drew ?_ | refine blk_alloc ?_ _)); refine blk_far ?_ NB163_164.out _; (with_reducible repeat (first | refine blk_drewN ?_ _ | refine blk_drew ?_ | refine blk_alloc ?_ _)); refine blk_far ?_ NB163_164.out _; (with_reducible repeat (first | refine blk_drewN ?_ _ | refine blk_drew ?_ | refine blk_alloc ?_ _)); exact BK163.out⟩, ⟨by repeat (first | (with_reducible first | exact HB.out | apply below_alloc | apply pw_below_drewN | apply below_drew1 | refine below_set ?_ GE163.out | refine below_set ?_ GE164.out) | exact HB.out)⟩⟩
              · rw [if_neg c12] at H
                exact absurd H (by simp)
            · rw [if_neg c11] at H
              exact absurd H (by simp)
          · replace c10 := Bool.eq_false_iff.mpr c10
            subst c10
            have H1 : (some t158) = some r := by rw [if_neg (show ¬ (false = true) by decide)] at H; exact H
            clear H
            have H := H1
            clear H1
            obtain rfl := Option.some.inj H
            go_wp2
            go_ret
            exact ⟨by first | rfl | (simp [errW_none, errW_some] <;> rfl) | (simp [*, errW_none, errW_some] <;> rfl), by repeat (first | (with_reducible first | exact HB.out | apply below_alloc | apply pw_below_drewN | apply below_drew1 | refine below_set ?_ GE163.out) | exact HB.out)⟩

end Go.Proofs.Ytmajccpifkbdpaa.P
