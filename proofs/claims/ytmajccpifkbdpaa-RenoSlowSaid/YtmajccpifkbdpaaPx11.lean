-- Printed for this claim by xprint.py of this session: contracts of this session's own stand in for what the print does not take
import Derived.Test.YtmajccpifkbdpaaPx0
import Derived.Test.YtmajccpifkbdpaaPx3
import Derived.Test.YtmajccpifkbdpaaPx4
import Derived.Test.YtmajccpifkbdpaaPx5
namespace Go.Proofs.Ytmajccpifkbdpaa.P
open Go.RowKit Go.Proofs.YtmajccpifkbdpaaW.PrintWords Go.Proofs.YtmajccpifkbdpaaW.PrintLast Go.Proofs.YtmajccpifkbdpaaW.PrintMore
attribute [local go_sem] max2_int min2_int max_two min_two max_three min_three max_four min_four   -- for this text's walks alone
set_option linter.unusedVariables false
set_option linter.unusedSimpArgs false

/-! ### wigwaglaw10_RenoSlow: function 8 -/
mutual
def wigwaglaw10_RenoSlow.l0 : Nat → List Int → Bool → Int → Int → Int → Int → Int → Int → Option (Bool)
  | 0, _, _, _, _, _, _, _, _ => none
  | k + 1, x0, x3, x5, x6, x225000, x225001, x225002, x225003 => if x6 < (x0.length : Int) then (wigwaglaw10_RenoSlow.j1 k x0 x3 x5 x6 (decide (x6 < 50)) x225000 x225001 x225002 x225003) else (wigwaglaw10_RenoSlow.j1 k x0 x3 x5 x6 false x225000 x225001 x225002 x225003)
def wigwaglaw10_RenoSlow.j1 : Nat → List Int → Bool → Int → Int → Bool → Int → Int → Int → Int → Option (Bool)
  | 0, _, _, _, _, _, _, _, _, _ => none
  | k + 1, x0, x3, x5, x6, x16, x225000, x225001, x225002, x225003 => if x16 = true then (if 0 ≤ x6 then (if x6 < (x0.length : Int) then ((reno_Ack.f k x225000 x225001 x225002 x225003 (IntKind.u64.wrap (rd x0 x6)) 0 false).bind fun bt226 => (if bt226.1 = (mn (IntKind.u64.wrap (x5 + (IntKind.u64.wrap (rd x0 x6)))) 16777216) then (if (mn (IntKind.u64.wrap (x5 + (IntKind.u64.wrap (rd x0 x6)))) 16777216) = 16777216 then (if x3 = true then (some (bt226.2.1 == 16777216)) else (some false)) else (wigwaglaw10_RenoSlow.l0 k x0 x3 (mn (IntKind.u64.wrap (x5 + (IntKind.u64.wrap (rd x0 x6)))) 16777216) (wrap64 (x6 + 1)) bt226.1 bt226.2.1 bt226.2.2.1 bt226.2.2.2)) else (if (mn (IntKind.u64.wrap (x5 + (IntKind.u64.wrap (rd x0 x6)))) 16777216) = 16777216 then (some (bt226.1 == 16777216)) else (some false)))) else (none)) else (none)) else (if x3 = true then (if x225000 = x5 then (some (x225001 == 16777216)) else (some false)) else (some false))
end
def wigwaglaw10_RenoSlow.f (k : Nat) (l0 : List Int) : Option (Bool) := (wigwaglaw10_awake.f k).bind fun t219 => ((reno_New.f).bind fun bt220 => (wigwaglaw10_RenoSlow.l0 k l0 t219 12000 0 bt220.1 bt220.2.1 bt220.2.2.1 bt220.2.2.2))
theorem wigwaglaw10_RenoSlow.mono_l : ∀ k, (∀ y0 y1 y2 y3 y4 y5 y6 y7, LeO (wigwaglaw10_RenoSlow.l0 k y0 y1 y2 y3 y4 y5 y6 y7) (wigwaglaw10_RenoSlow.l0 (k + 1) y0 y1 y2 y3 y4 y5 y6 y7)) ∧ (∀ y0 y1 y2 y3 y4 y5 y6 y7 y8, LeO (wigwaglaw10_RenoSlow.j1 k y0 y1 y2 y3 y4 y5 y6 y7 y8) (wigwaglaw10_RenoSlow.j1 (k + 1) y0 y1 y2 y3 y4 y5 y6 y7 y8))
  | 0 => ⟨fun _ _ _ _ _ _ _ _ r h => by simp [wigwaglaw10_RenoSlow.l0] at h, fun _ _ _ _ _ _ _ _ _ r h => by simp [wigwaglaw10_RenoSlow.j1] at h⟩
  | k + 1 => by
    obtain ⟨ih0, ih1⟩ := wigwaglaw10_RenoSlow.mono_l k
    refine ⟨?_, ?_⟩
    · intro y0 y1 y2 y3 y4 y5 y6 y7
      unfold wigwaglaw10_RenoSlow.l0
      repeat' first
      | (with_reducible exact ih0 _ _ _ _ _ _ _ _)
      | (with_reducible exact ih1 _ _ _ _ _ _ _ _ _)
      | (with_reducible exact reno_Ack.mono _ _ _ _ _ _ _ _)
      | (with_reducible exact wigwaglaw10_awake.mono _)
      | (with_reducible exact LeO.refl _)
      | (with_reducible exact LeO.none _)
      | (with_reducible refine LeO.ite ?_ ?_)
      | (with_reducible refine LeO.bind ?_ (fun _ => ?_))
      | exact ih0 _ _ _ _ _ _ _ _
      | exact ih1 _ _ _ _ _ _ _ _ _
      | exact reno_Ack.mono _ _ _ _ _ _ _ _
      | exact wigwaglaw10_awake.mono _
      | exact LeO.none _
      | refine LeO.ite ?_ ?_
      | refine LeO.bind ?_ (fun _ => ?_)
    · intro y0 y1 y2 y3 y4 y5 y6 y7 y8
      unfold wigwaglaw10_RenoSlow.j1
      repeat' first
      | (with_reducible exact ih0 _ _ _ _ _ _ _ _)
      | (with_reducible exact ih1 _ _ _ _ _ _ _ _ _)
      | (with_reducible exact reno_Ack.mono _ _ _ _ _ _ _ _)
      | (with_reducible exact wigwaglaw10_awake.mono _)
      | (with_reducible exact LeO.refl _)
      | (with_reducible exact LeO.none _)
      | (with_reducible refine LeO.ite ?_ ?_)
      | (with_reducible refine LeO.bind ?_ (fun _ => ?_))
      | exact ih0 _ _ _ _ _ _ _ _
      | exact ih1 _ _ _ _ _ _ _ _ _
      | exact reno_Ack.mono _ _ _ _ _ _ _ _
      | exact wigwaglaw10_awake.mono _
      | exact LeO.none _
      | refine LeO.ite ?_ ?_
      | refine LeO.bind ?_ (fun _ => ?_)
theorem wigwaglaw10_RenoSlow.mono : ∀ a0 k, LeO (wigwaglaw10_RenoSlow.f k a0) (wigwaglaw10_RenoSlow.f (k + 1) a0) := by
  intro a0 k
  obtain ⟨ih0, ih1⟩ := wigwaglaw10_RenoSlow.mono_l k
  unfold wigwaglaw10_RenoSlow.f
  repeat' first
      | (with_reducible exact ih0 _ _ _ _ _ _ _ _)
      | (with_reducible exact ih1 _ _ _ _ _ _ _ _ _)
      | (with_reducible exact reno_Ack.mono _ _ _ _ _ _ _ _)
      | (with_reducible exact wigwaglaw10_awake.mono _)
      | (with_reducible exact LeO.refl _)
      | (with_reducible exact LeO.none _)
      | (with_reducible refine LeO.ite ?_ ?_)
      | (with_reducible refine LeO.bind ?_ (fun _ => ?_))
      | exact ih0 _ _ _ _ _ _ _ _
      | exact ih1 _ _ _ _ _ _ _ _ _
      | exact reno_Ack.mono _ _ _ _ _ _ _ _
      | exact wigwaglaw10_awake.mono _
      | exact LeO.none _
      | refine LeO.ite ?_ ?_
      | refine LeO.bind ?_ (fun _ => ?_)
def wigwaglaw10_RenoSlow.T7 : Bool × List (List Nat × List Nat) := (true, [([], []), ([], []), ([], []), ([1, 2], [1, 2]), ([3], [3]), ([4], [4]), ([0, 5], [0, 5]), ([6, 6, 0, 1, 2, 3, 4, 5, 6], [6])])
def wigwaglaw10_RenoSlow.B7 : List Nat := [0, 0, 0, 6, 14, 30, 63, 127]
theorem wigwaglaw10_RenoSlow.tab7 : rtab .any (opsOf Try.f8 7) = wigwaglaw10_RenoSlow.T7 := by kernel_rfl
theorem wigwaglaw10_RenoSlow.bits7 : waitsOk wigwaglaw10_RenoSlow.T7.2 wigwaglaw10_RenoSlow.B7 = true := by kernel_rfl
set_option maxHeartbeats 8000000 in
set_option maxRecDepth 100000 in
theorem wigwaglaw10_RenoSlow.calls (k : Nat) (A0 : Option Addr) (c0 : Nat) (l0 : List Int) (r : Bool) (w : World) (hr0 : Kd.C (Kd.int .u32) w A0 l0.length l0) (hc0 : l0.length ≤ c0) (h : wigwaglaw10_RenoSlow.f k l0 = some r) :
    Calls Try.prog 8 #[.slice A0 l0.length c0] w fun e w' => e = .returned (.bool r) ∧ Below w.heap.size w w' := by
  have hu25 := Try.underlying25
  have HR0 := Aside0.mk hr0
  have HC0 := Aside0.mk hc0
  clear hr0 hc0
  have HB := Aside0.mk (Below.refl w.heap.size w)
  have H : ((wigwaglaw10_awake.f k).bind fun t219 => ((reno_New.f).bind fun bt220 => (wigwaglaw10_RenoSlow.l0 k l0 t219 12000 0 bt220.1 bt220.2.1 bt220.2.2.1 bt220.2.2.2))) = some r := h
  clear h
  replace H := Option.bind_eq_some_iff.mp H
  obtain ⟨t219, A20, H⟩ := H
  replace H : ((reno_New.f).bind fun bt220 => (wigwaglaw10_RenoSlow.l0 k l0 t219 12000 0 bt220.1 bt220.2.1 bt220.2.2.1 bt220.2.2.2)) = some r := H
  have A2 := Aside0.mk A20
  clear A20
  replace H := Option.bind_eq_some_iff.mp H
  obtain ⟨⟨t220, t221, t222, t223⟩, A30, H⟩ := H
  replace H : (wigwaglaw10_RenoSlow.l0 k l0 t219 12000 0 t220 t221 t222 t223) = some r := H
  have A3 := Aside0.mk A30
  clear A30
  have H' := Aside0.mk H
  clear H
  go_enter Try.func8, Try.ntmps8
  go_wp2_with (first | ((with_reducible refine gate_callee (f := 10) rfl ?_); refine goesL_ (some 7) rfl rfl Try.func10 (by kernel_rfl) rfl #[] rfl (by (try simp only [List.map_toArray, List.map_cons, List.map_nil]); first | done | rfl | (simp only [List.length_drop, List.length_take]; rfl)) ?_; (with_reducible refine (wigwaglaw10_awake.calls k  t219 _ A2.out).mono ?_); rintro e w4 ⟨rfl, hb⟩; refine ⟨_, rfl, ?_⟩; have n0_ := Aside0.mk (below_step (by repeat (first | (with_reducible first | exact HB.out | apply below_alloc | apply pw_below_drewN | apply below_drew1) | exact HB.out)) hb); clear HB; have HB := n0_; clear n0_; (try clear hb); (try clear hb2); (try clear hk); (try clear hi)) | ((with_reducible refine gate_callee (f := 19) rfl ?_); refine goesL_ (some 8) rfl rfl Try.func19 (by kernel_rfl) rfl #[] rfl (by (try simp only [List.map_toArray, List.map_cons, List.map_nil]); first | done | rfl | (simp only [List.length_drop, List.length_take]; rfl)) ?_; (with_reducible refine (reno_New.calls  t220 t221 t222 t223 _ A3.out).mono ?_); rintro e w5 ⟨rfl, hb⟩; refine ⟨_, rfl, ?_⟩; have n0_ := Aside0.mk (below_step (by repeat (first | (with_reducible first | exact HB.out | apply below_alloc | apply pw_below_drewN | apply below_drew1) | exact HB.out)) hb); clear HB; have HB := n0_; clear n0_; (try clear hb); (try clear hb2); (try clear hk); (try clear hi)) | ((with_reducible refine gate_dst (N := 4) rfl ?_); refine box_event ?hg (N := 4) ?hd (cs := #[.int .u64 0, .int .u64 0, .int .u64 0, .int .u64 0]) (t := 25) ?hr ?_; (case hd => rfl); (case hg => rfl); (case hr => first | (go_simp; done) | (go_simp; rfl)); intro gb224 hg w6 hbox hb; have n0_ := Aside0.mk (below_step (by repeat (first | (with_reducible first | exact HB.out | apply below_alloc | apply pw_below_drewN | apply below_drew1) | exact HB.out)) hb); have n1_ := Aside0.mk (hbox); have n2_ := Aside0.mk ((by rw [hg]; exact (below_size (by repeat (first | (with_reducible first | exact HB.out | apply below_alloc | apply pw_below_drewN | apply below_drew1) | exact HB.out))) : w.heap.size ≤ gb224)); have n3_ := Aside0.mk ((by rw [hg]; exact (below_size (by repeat (first | (with_reducible first | exact HB.out | apply below_alloc | apply pw_below_drewN | apply below_drew1) | exact HB.out))) : w.heap.size ≤ gb224)); clear HB; have HB := n0_; have BK224 := n1_; have GW224 := n2_; have GE224 := n3_; clear n0_ n1_ n2_ n3_; clear hb hbox hg; have hcz7_0 : w6.cell? ⟨gb224, 0, none⟩ = some (.int .u64 0) := (blk_cell BK224.out 0).trans rfl; have hcz7_1 : w6.cell? ⟨gb224, 1, none⟩ = some (.int .u64 0) := (blk_cell BK224.out 1).trans rfl; have hcz7_2 : w6.cell? ⟨gb224, 2, none⟩ = some (.int .u64 0) := (blk_cell BK224.out 2).trans rfl; have hcz7_3 : w6.cell? ⟨gb224, 3, none⟩ = some (.int .u64 0) := (blk_cell BK224.out 3).trans rfl; have hfz7_0 := blk_frozen BK224.out 0; have hfz7_1 := blk_frozen BK224.out 1; have hfz7_2 := blk_frozen BK224.out 2; have hfz7_3 := blk_frozen BK224.out 3))
  go_loopg [5, 6] k (fun kq v5 v6 w' => ∃ (x5_1 : Int) (x6_1 : Int) (x225000_1 : Int) (x225001_1 : Int) (x225002_1 : Int) (x225003_1 : Int), v5 = .int .u64 x5_1 ∧ v6 = .int .i64 x6_1 ∧ Aside0 (wigwaglaw10_RenoSlow.l0 kq l0 t219 x5_1 x6_1 x225000_1 x225001_1 x225002_1 x225003_1 = some r) ∧ Aside0 (kq ≤ k) ∧ Aside0 (w'.heap[gb224]? = some (.cells #[.int .u64 x225000_1, .int .u64 x225001_1, .int .u64 x225002_1, .int .u64 x225003_1] 25 (0, 0))) ∧ Aside0 (Below w.heap.size w w'))
  case atStart => exact ⟨(12000), (0), (t220), (t221), (t222), (t223), (by first | rfl | (simp; done) | (simp [*]; done)), (by first | rfl | (simp; done) | (simp [*]; done)), H', ⟨Nat.le_refl _⟩, ⟨by (with_reducible repeat (first | refine blk_drewN ?_ _ | refine blk_drew ?_ | refine blk_alloc ?_ _)); refine blk_put (cs := #[.int .u64 t220, .int .u64 t221, .int .u64 t222, .int .u64 0]) ?_ 3 _ rfl; (with_reducible repeat (first | refine blk_drewN ?_ _ | refine blk_drew ?_ | refine blk_alloc ?_ _)); refine blk_put (cs := #[.int .u64 t220, .int .u64 t221, .int .u64 0, .int .u64 0]) ?_ 2 _ rfl; (with_reducible repeat (first | refine blk_drewN ?_ _ | refine blk_drew ?_ | refine blk_alloc ?_ _)); refine blk_put (cs := #[.int .u64 t220, .int .u64 0, .int .u64 0, .int .u64 0]) ?_ 1 _ rfl; (with_reducible repeat (first | refine blk_drewN ?_ _ | refine blk_drew ?_ | refine blk_alloc ?_ _)); refine blk_put (cs := #[.int .u64 0, .int .u64 0, .int .u64 0, .int .u64 0]) ?_ 0 _ rfl; (with_reducible repeat (first | refine blk_drewN ?_ _ | refine blk_drew ?_ | refine blk_alloc ?_ _)); exact BK224.out⟩, ⟨by repeat (first | (with_reducible first | exact HB.out | apply below_alloc | apply pw_below_drewN | apply below_drew1 | refine below_set ?_ GE224.out) | exact HB.out)⟩⟩
  case round =>
    clear H'
    try clear c1
    try clear p2
    try clear hcz7_0
    try clear hcz7_1
    try clear hcz7_2
    try clear hcz7_3
    try clear hfz7_0
    try clear hfz7_1
    try clear hfz7_2
    try clear hfz7_3
    obtain ⟨x5_1, x6_1, x225000_1, x225001_1, x225002_1, x225003_1, rfl, rfl, HA, HK1, BK224, HB⟩ := hrel
    cases gk with
    | zero => exact absurd HA.out (by simp [wigwaglaw10_RenoSlow.l0])
    | succ k1 =>
      have H := HA.out
      clear HA
      simp only [wigwaglaw10_RenoSlow.l0] at H
      have HC8 := Aside0.mk H
      clear H
      go_upto_region 5 with (fail)
      go_cut [16] (fun v16 wc => ∃ (kq : Nat) (x16_7 : Bool), v16 = .bool x16_7 ∧ Aside0 (wigwaglaw10_RenoSlow.j1 kq l0 t219 x5_1 x6_1 x16_7 x225000_1 x225001_1 x225002_1 x225003_1 = some r) ∧ Aside0 (kq ≤ k1) ∧ Aside0 (wc.heap[gb224]? = some (.cells #[.int .u64 x225000_1, .int .u64 x225001_1, .int .u64 x225002_1, .int .u64 x225003_1] 25 (0, 0))) ∧ Aside0 (Below w.heap.size w wc))
      case first =>
        have H := HC8.out
        clear HC8
        by_cases c9 : x6_1 < (l0.length : Int)
        · rw [if_pos c9] at H
          have c9b0 : decide (x6_1 < (l0.length : Int)) = true := decide_eq_true c9
          clear c9
          (first | rw [c9b0] | (simp only [i64_w, i32_w]; rw [c9b0]) | skip)
          have H' := Aside0.mk H
          clear H
          go_wp2
          go_meet
          case rel => exact ⟨_, (decide (x6_1 < 50)), (by first | rfl | (simp; done) | (simp [*]; done)), H', ⟨by have := HK1.out; first | omega | exact Nat.le_refl _⟩, ⟨by (with_reducible repeat (first | refine blk_drewN ?_ _ | refine blk_drew ?_ | refine blk_alloc ?_ _)); exact BK224.out⟩, ⟨by repeat (first | (with_reducible first | exact HB.out | apply below_alloc | apply pw_below_drewN | apply below_drew1 | refine below_set ?_ GE224.out) | exact HB.out)⟩⟩
        · rw [if_neg c9] at H
          have c9b0 : decide (x6_1 < (l0.length : Int)) = false := decide_eq_false c9
          clear c9
          (first | rw [c9b0] | (simp only [i64_w, i32_w]; rw [c9b0]) | skip)
          have H' := Aside0.mk H
          clear H
          go_wp2
          go_meet
          case rel => exact ⟨_, (false), (by first | rfl | (simp; done) | (simp [*]; done)), H', ⟨by have := HK1.out; first | omega | exact Nat.le_refl _⟩, ⟨by (with_reducible repeat (first | refine blk_drewN ?_ _ | refine blk_drew ?_ | refine blk_alloc ?_ _)); exact BK224.out⟩, ⟨by repeat (first | (with_reducible first | exact HB.out | apply below_alloc | apply pw_below_drewN | apply below_drew1 | refine below_set ?_ GE224.out) | exact HB.out)⟩⟩
      case rest =>
        clear HC8
        try clear c1
        try clear p2
        try clear c8
        try clear c9
        try clear c9b0
        try clear hcz7_0
        try clear hcz7_1
        try clear hcz7_2
        try clear hcz7_3
        try clear hfz7_0
        try clear hfz7_1
        try clear hfz7_2
        try clear hfz7_3
        try clear p2
        obtain ⟨kq, x16_7, rfl, HA, HJ7, BK224, HB⟩ := hcut
        cases kq with
        | zero => exact absurd HA.out (by simp [wigwaglaw10_RenoSlow.j1])
        | succ kj7 =>
          have H := HA.out
          clear HA
          simp only [wigwaglaw10_RenoSlow.j1] at H
          by_cases c10 : x16_7 = true
          · subst c10
            have H1 : (if 0 ≤ x6_1 then (if x6_1 < (l0.length : Int) then ((reno_Ack.f kj7 x225000_1 x225001_1 x225002_1 x225003_1 (IntKind.u64.wrap (rd l0 x6_1)) 0 false).bind fun bt226 => (if bt226.1 = (mn (IntKind.u64.wrap (x5_1 + (IntKind.u64.wrap (rd l0 x6_1)))) 16777216) then (if (mn (IntKind.u64.wrap (x5_1 + (IntKind.u64.wrap (rd l0 x6_1)))) 16777216) = 16777216 then (if t219 = true then (some (bt226.2.1 == 16777216)) else (some false)) else (wigwaglaw10_RenoSlow.l0 kj7 l0 t219 (mn (IntKind.u64.wrap (x5_1 + (IntKind.u64.wrap (rd l0 x6_1)))) 16777216) (wrap64 (x6_1 + 1)) bt226.1 bt226.2.1 bt226.2.2.1 bt226.2.2.2)) else (if (mn (IntKind.u64.wrap (x5_1 + (IntKind.u64.wrap (rd l0 x6_1)))) 16777216) = 16777216 then (some (bt226.1 == 16777216)) else (some false)))) else (none)) else (none)) = some r := by rw [if_pos rfl] at H; exact H
            clear H
            have H := H1
            clear H1
            by_cases c11 : 0 ≤ x6_1
            · rw [if_pos c11] at H
              have c11b0 : decide (0 ≤ x6_1) = true := decide_eq_true c11
              clear c11
              by_cases c12 : x6_1 < (l0.length : Int)
              · rw [if_pos c12] at H
                have c12b0 : decide (x6_1 < (l0.length : Int)) = true := decide_eq_true c12
                clear c12
                replace H := Option.bind_eq_some_iff.mp H
                obtain ⟨⟨t226, t227, t228, t229⟩, A130, H⟩ := H
                replace H : (if t226 = (mn (IntKind.u64.wrap (x5_1 + (IntKind.u64.wrap (rd l0 x6_1)))) 16777216) then (if (mn (IntKind.u64.wrap (x5_1 + (IntKind.u64.wrap (rd l0 x6_1)))) 16777216) = 16777216 then (if t219 = true then (some (t227 == 16777216)) else (some false)) else (wigwaglaw10_RenoSlow.l0 kj7 l0 t219 (mn (IntKind.u64.wrap (x5_1 + (IntKind.u64.wrap (rd l0 x6_1)))) 16777216) (wrap64 (x6_1 + 1)) t226 t227 t228 t229)) else (if (mn (IntKind.u64.wrap (x5_1 + (IntKind.u64.wrap (rd l0 x6_1)))) 16777216) = 16777216 then (some (t226 == 16777216)) else (some false))) = some r := H
                have A13 := Aside0.mk A130
                clear A130
                obtain ⟨ji14, hji14⟩ : ∃ j_ : Int, (mn (IntKind.u64.wrap (x5_1 + (IntKind.u64.wrap (rd l0 x6_1)))) 16777216) = j_ := ⟨_, rfl⟩
                replace H : (if t226 = (ji14) then (if (ji14) = 16777216 then (if t219 = true then (some (t227 == 16777216)) else (some false)) else (wigwaglaw10_RenoSlow.l0 kj7 l0 t219 ji14 (wrap64 (x6_1 + 1)) t226 t227 t228 t229)) else (if (ji14) = 16777216 then (some (t226 == 16777216)) else (some false))) = some r := by first | (rw [hji14] at H; exact H) | (simp only [hji14] at H ⊢; exact H)
                (try rw [hji14] at A13)
                have hji14_ : (if 16777216 < (IntKind.u64.wrap (x5_1 + (IntKind.u64.wrap (rd l0 x6_1)))) then 16777216 else (IntKind.u64.wrap (x5_1 + (IntKind.u64.wrap (rd l0 x6_1))))) = ji14 := hji14
                by_cases c15 : t226 = (ji14)
                · rw [if_pos c15] at H
                  have c15b0 : (t226 == (ji14)) = true := beq_iff_eq.mpr c15
                  have c15b1 : (t226 != (ji14)) = false := bne_eq_false_iff_eq.mpr c15
                  clear c15
                  by_cases c16 : (ji14) = 16777216
                  · rw [if_pos c16] at H
                    have c16b0 : ((ji14) == 16777216) = true := beq_iff_eq.mpr c16
                    have c16b1 : ((ji14) != 16777216) = false := bne_eq_false_iff_eq.mpr c16
                    clear c16
                    have HS17 := Aside0.mk H
                    clear H
                    try go_wp2
                    have n0_ := Aside0.mk (blk_drew BK224.out)
                    have n1_ := Aside0.mk (below_drew1 HB.out)
                    clear BK224
                    clear HB
                    have BK224 := n0_
                    have HB := n1_
                    clear n0_ n1_
                    have p225 : 0 ≤ (x6_1 : Int) := of_decide_eq_true (by first | (with_reducible assumption) | assumption)
                    have q225 : x6_1 < (l0.length : Int) := of_decide_eq_true (by first | (with_reducible assumption) | assumption)
                    obtain ⟨ad225, e225, hx225_0⟩ := Kd.at_int HR0.out x6_1 p225 q225
                    have hw225_0 := hx225_0
                    cases e225
                    replace hx225_0 := (HB.out.cell (World.block_lt_of_cell? w _ hx225_0)).trans hx225_0
                    replace p225 := eq_true p225
                    replace q225 := eq_true q225
                    refine start_ (n := 8) (S := fun w' => w'.cell? ⟨gb224, 0, none⟩ = some (.int .u64 x225000_1) ∧ w'.cell? ⟨gb224, 1, none⟩ = some (.int .u64 x225001_1) ∧ w'.cell? ⟨gb224, 2, none⟩ = some (.int .u64 x225002_1) ∧ w'.cell? ⟨gb224, 3, none⟩ = some (.int .u64 x225003_1) ∧ w'.cell? (ad225.add (x6_1).toNat) = some (.int .u32 (rd l0 x6_1))) (ds := [7]) #[false, false, false, false, false, false, false, false] (by kernel_rfl) rfl rfl ⟨(blk_cell BK224.out 0).trans rfl, (blk_cell BK224.out 1).trans rfl, (blk_cell BK224.out 2).trans rfl, (blk_cell BK224.out 3).trans rfl, ((HB.out.cell (World.block_lt_of_cell? w _ hw225_0)).trans hw225_0)⟩ (fun hHeld => ?_); refine with_tabW wigwaglaw10_RenoSlow.tab7 wigwaglaw10_RenoSlow.bits7 (fun HT_ HW_ => ?_)
                    generalize wc.drew = w18 at BK224 HB hx225_0 hHeld ⊢
                    refine pure_ (i := 1) (N := some 20) (v := ?_) (a' := ?_) #[false, true, false, false, false, false, false, false] rfl rfl (any_of HT_.out (by kernel_rfl)) (fun _ _ _ h => h) (Or.inl ⟨by rfl, ?_⟩) ?_ ?_
                    rotate_left
                    · intro w'
                      go_simp
                      with_reducible rfl
                    rotate_left
                    · simp only [Act.put, List.setIfInBounds_toArray, List.set_cons_zero, List.set_cons_succ, i64_w, i32_w]
                      rfl
                    refine pure_ (i := 2) (N := some 21) (v := ?_) (a' := ?_) #[false, true, true, false, false, false, false, false] rfl rfl (any_of HT_.out (by kernel_rfl)) (fun _ _ _ h => h) (Or.inl ⟨by rfl, ?_⟩) ?_ ?_
                    rotate_left
                    · intro w'
                      go_simp
                      with_reducible rfl
                    rotate_left
                    · simp only [Act.put, List.setIfInBounds_toArray, List.set_cons_zero, List.set_cons_succ, i64_w, i32_w]
                      rfl
                    refine pure_ (i := 3) (N := some 22) (v := ?_) (a' := ?_) #[false, true, true, true, false, false, false, false] rfl rfl (any_of HT_.out (by kernel_rfl)) (fun _ _ _ h => h) (Or.inl ⟨by rfl, ?_⟩) ?_ ?_
                    rotate_left
                    · intro w'
                      go_simp
                      with_reducible rfl
                    rotate_left
                    · simp only [Act.put, List.setIfInBounds_toArray, List.set_cons_zero, List.set_cons_succ, i64_w, i32_w]
                      rfl
                    refine take_ (i := 0) (N := some 19) (v := ?_) (a' := ?_) #[true, true, true, true, false, false, false, false] rfl rfl (take_ofW HT_.out HW_.out (by kernel_rfl)) (fun _ _ _ h => h) (Or.inl ⟨by rfl, ?_⟩) hHeld ?_ ?_
                    rotate_left
                    · rintro w' ⟨s0, s1, s2, s3, s4⟩
                      go_simp
                      with_reducible rfl
                    rotate_left
                    · simp only [Act.put, List.setIfInBounds_toArray, List.set_cons_zero, List.set_cons_succ, i64_w, i32_w]
                      rfl
                    refine take_ (i := 4) (N := some 23) (v := ?_) (a' := ?_) #[true, true, true, true, true, false, false, false] rfl rfl (take_ofW HT_.out HW_.out (by kernel_rfl)) (fun _ _ _ h => h) (Or.inl ⟨by rfl, ?_⟩) hHeld ?_ ?_
                    rotate_left
                    · rintro w' ⟨s0, s1, s2, s3, s4⟩
                      go_simp
                      with_reducible rfl
                    rotate_left
                    · simp only [Act.put, List.setIfInBounds_toArray, List.set_cons_zero, List.set_cons_succ, i64_w, i32_w]
                      rfl
                    refine pure_ (i := 5) (N := some 24) (v := ?_) (a' := ?_) #[true, true, true, true, true, true, false, false] rfl rfl (any_of HT_.out (by kernel_rfl)) (fun _ _ _ h => h) (Or.inl ⟨by rfl, ?_⟩) ?_ ?_
                    rotate_left
                    · intro w'
                      go_simp
                      with_reducible rfl
                    rotate_left
                    · simp only [Act.put, List.setIfInBounds_toArray, List.set_cons_zero, List.set_cons_succ, i64_w, i32_w]
                      rfl
                    refine one_ (i := 6) (N := some 25) #[true, true, true, true, true, true, true, false] rfl rfl (one_of HT_.out (by kernel_rfl)) (by decide) (fun K hK => ?_)
                    refine goes_ Try.func11 (by kernel_rfl) rfl #[.agg #[.int .u64 x225000_1, .int .u64 x225001_1, .int .u64 x225002_1, .int .u64 x225003_1], .int .u64 (IntKind.u64.wrap (rd l0 x6_1)), .int .u64 0, .bool false] (by rfl) rfl rfl (by (try simp only [List.map_toArray, List.map_cons, List.map_nil]); first | done | rfl | (simp only [List.length_drop, List.length_take]; rfl)) ?_
                    with_reducible refine (reno_Ack.calls kj7 x225000_1 x225001_1 x225002_1 x225003_1 (IntKind.u64.wrap (rd l0 x6_1)) 0 false t226 t227 t228 t229 _ A13.out).mono ?_
                    rintro e w19 ⟨rfl, hb⟩
                    refine ⟨_, rfl, ?_⟩
                    have n0_ := Aside0.mk (blk_below (g := gb224) (o := .cells #[.int .u64 x225000_1, .int .u64 x225001_1, .int .u64 x225002_1, .int .u64 x225003_1] 25 (0, 0)) (by (with_reducible repeat (first | refine blk_drewN ?_ _ | refine blk_drew ?_ | refine blk_alloc ?_ _)); exact BK224.out) hb)
                    have n1_ := Aside0.mk (below_step (by repeat (first | (with_reducible first | exact HB.out | apply below_alloc | apply pw_below_drewN | apply below_drew1 | refine below_set ?_ GE224.out) | exact HB.out)) hb)
                    clear BK224
                    clear HB
                    have BK224 := n0_
                    have HB := n1_
                    clear n0_ n1_
                    (try clear hb)
                    (try clear hb2)
                    (try clear hk)
                    (try clear hi)
                    refine hK.out _ _ ⟨(blk_cell BK224.out 0).trans rfl, (blk_cell BK224.out 1).trans rfl, (blk_cell BK224.out 2).trans rfl, (blk_cell BK224.out 3).trans rfl, ((HB.out.cell (World.block_lt_of_cell? w _ hw225_0)).trans hw225_0)⟩ (fun hHeld => ?_)
                    clear hK K
                    refine norm_ (a' := ?_) ?_ ?_
                    rotate_left
                    · show Act.put _ (some 25) _ = _
                      simp only [Act.put, List.setIfInBounds_toArray, List.set_cons_zero, List.set_cons_succ, i64_w, i32_w]
                      rfl
                    refine last_ (i := 7) (N := none) #[true, true, true, true, true, true, true, true] rfl rfl (one_of HT_.out (by kernel_rfl)) (by decide) (fun K hK => ?_)
                    have hs20 : w19.cell? ⟨gb224, 0, none⟩ = some (.int .u64 x225000_1) := (blk_cell BK224.out 0).trans rfl
                    have hfs20 := blk_frozen BK224.out 0
                    have hs21 : w19.cell? ⟨gb224, 1, none⟩ = some (.int .u64 x225001_1) := (blk_cell BK224.out 1).trans rfl
                    have hfs21 := blk_frozen BK224.out 1
                    have hs22 : w19.cell? ⟨gb224, 2, none⟩ = some (.int .u64 x225002_1) := (blk_cell BK224.out 2).trans rfl
                    have hfs22 := blk_frozen BK224.out 2
                    have hs23 : w19.cell? ⟨gb224, 3, none⟩ = some (.int .u64 x225003_1) := (blk_cell BK224.out 3).trans rfl
                    have hfs23 := blk_frozen BK224.out 3
                    refine skip_ (w1 := ?_) (by rfl) rfl ?_ ?_
                    rotate_left
                    · go_simp
                      rfl
                    refine hK.out _ _ ?_
                    clear hK K
                    refine done_ (done_of HT_.out (by kernel_rfl)) ?_
                    have p230 : 0 ≤ (x6_1 : Int) := of_decide_eq_true (by first | (with_reducible assumption) | assumption)
                    have q230 : x6_1 < (l0.length : Int) := of_decide_eq_true (by first | (with_reducible assumption) | assumption)
                    obtain ⟨ad230, e230, hx230_0⟩ := Kd.at_int HR0.out x6_1 p230 q230
                    obtain rfl : ad225 = ad230 := (by injection e230)
                    have hn230_0 : ad225.block ≠ gb224 := Nat.ne_of_lt (Nat.lt_of_lt_of_le (by have := World.block_lt_of_cell? _ _ hx230_0; first | rwa [add_block] at this | exact this) GW224.out)
                    have hn230_1 : ad225.block ≠ gb224 := Nat.ne_of_lt (Nat.lt_of_lt_of_le (by have := World.block_lt_of_cell? _ _ hx230_0; first | rwa [add_block] at this | exact this) GW224.out)
                    have hn230_2 : ad225.block ≠ gb224 := Nat.ne_of_lt (Nat.lt_of_lt_of_le (by have := World.block_lt_of_cell? _ _ hx230_0; first | rwa [add_block] at this | exact this) GW224.out)
                    have hn230_3 : ad225.block ≠ gb224 := Nat.ne_of_lt (Nat.lt_of_lt_of_le (by have := World.block_lt_of_cell? _ _ hx230_0; first | rwa [add_block] at this | exact this) GW224.out)
                    replace hx230_0 := (HB.out.cell (World.block_lt_of_cell? w _ hx230_0)).trans hx230_0
                    replace hx230_0 := (cell_far (p := ⟨gb224, 0, none⟩) (by first | (rw [add_block]; exact hn230_0) | (show (Addr.add _ _).block ≠ _; rw [add_block]; exact hn230_0) | exact hn230_0) (.int .u64 t226)).trans hx230_0
                    replace hx230_0 := (cell_far (p := ⟨gb224, 1, none⟩) (by first | (rw [add_block]; exact hn230_1) | (show (Addr.add _ _).block ≠ _; rw [add_block]; exact hn230_1) | exact hn230_1) (.int .u64 t227)).trans hx230_0
                    replace hx230_0 := (cell_far (p := ⟨gb224, 2, none⟩) (by first | (rw [add_block]; exact hn230_2) | (show (Addr.add _ _).block ≠ _; rw [add_block]; exact hn230_2) | exact hn230_2) (.int .u64 t228)).trans hx230_0
                    replace hx230_0 := (cell_far (p := ⟨gb224, 3, none⟩) (by first | (rw [add_block]; exact hn230_3) | (show (Addr.add _ _).block ≠ _; rw [add_block]; exact hn230_3) | exact hn230_3) (.int .u64 t229)).trans hx230_0
                    clear hn230_0
                    clear hn230_1
                    clear hn230_2
                    clear hn230_3
                    replace p230 := eq_true p230
                    replace q230 := eq_true q230
                    have hcz24_0 : w19.cell? ⟨gb224, 0, none⟩ = some (.int .u64 x225000_1) := (blk_cell BK224.out 0).trans rfl
                    have hcz24_1 : w19.cell? ⟨gb224, 1, none⟩ = some (.int .u64 x225001_1) := (blk_cell BK224.out 1).trans rfl
                    have hcz24_2 : w19.cell? ⟨gb224, 2, none⟩ = some (.int .u64 x225002_1) := (blk_cell BK224.out 2).trans rfl
                    have hcz24_3 : w19.cell? ⟨gb224, 3, none⟩ = some (.int .u64 x225003_1) := (blk_cell BK224.out 3).trans rfl
                    have hfz24_0 := blk_frozen BK224.out 0
                    have hfz24_1 := blk_frozen BK224.out 1
                    have hfz24_2 := blk_frozen BK224.out 2
                    have hfz24_3 := blk_frozen BK224.out 3
                    go_upto_region 12 with (fail)
                    (try simp only [Act.put, List.setIfInBounds_toArray, List.set_cons_zero, List.set_cons_succ])
                    have H := HS17.out
                    clear HS17
                    by_cases c25 : t219 = true
                    · subst c25
                      have H1 : (some (t227 == 16777216)) = some r := by rw [if_pos rfl] at H; exact H
                      clear H
                      have H := H1
                      clear H1
                      obtain rfl := Option.some.inj H
                      have hcz26_0 : w19.cell? ⟨gb224, 0, none⟩ = some (.int .u64 x225000_1) := (blk_cell BK224.out 0).trans rfl
                      have hcz26_1 : w19.cell? ⟨gb224, 1, none⟩ = some (.int .u64 x225001_1) := (blk_cell BK224.out 1).trans rfl
                      have hcz26_2 : w19.cell? ⟨gb224, 2, none⟩ = some (.int .u64 x225002_1) := (blk_cell BK224.out 2).trans rfl
                      have hcz26_3 : w19.cell? ⟨gb224, 3, none⟩ = some (.int .u64 x225003_1) := (blk_cell BK224.out 3).trans rfl
                      have hfz26_0 := blk_frozen BK224.out 0
                      have hfz26_1 := blk_frozen BK224.out 1
                      have hfz26_2 := blk_frozen BK224.out 2
                      have hfz26_3 := blk_frozen BK224.out 3
                      go_wp2
                      go_ret
                      exact ⟨by first | rfl | (simp [errW_none, errW_some] <;> rfl) | (simp only [← hji14]; first | rfl | (simp [errW_none, errW_some] <;> rfl)) | (simp [*, errW_none, errW_some] <;> rfl), by repeat (first | (with_reducible first | exact HB.out | apply below_alloc | apply pw_below_drewN | apply below_drew1 | refine below_set ?_ GE224.out) | exact HB.out)⟩
                    · replace c25 := Bool.eq_false_iff.mpr c25
                      subst c25
                      have H1 : (some false) = some r := by rw [if_neg (show ¬ (false = true) by decide)] at H; exact H
                      clear H
                      have H := H1
                      clear H1
                      obtain rfl := Option.some.inj H
                      go_wp2
                      go_ret
                      exact ⟨by first | rfl | (simp [errW_none, errW_some] <;> rfl) | (simp only [← hji14]; first | rfl | (simp [errW_none, errW_some] <;> rfl)) | (simp [*, errW_none, errW_some] <;> rfl), by repeat (first | (with_reducible first | exact HB.out | apply below_alloc | apply pw_below_drewN | apply below_drew1 | refine below_set ?_ GE224.out) | exact HB.out)⟩
                  · rw [if_neg c16] at H
                    have c16b0 : ((ji14) == 16777216) = false := beq_eq_false_iff_ne.mpr c16
                    have c16b1 : ((ji14) != 16777216) = true := bne_iff_ne.mpr c16
                    have H' := Aside0.mk H
                    clear H
                    try go_wp2
                    have n0_ := Aside0.mk (blk_drew BK224.out)
                    have n1_ := Aside0.mk (below_drew1 HB.out)
                    clear BK224
                    clear HB
                    have BK224 := n0_
                    have HB := n1_
                    clear n0_ n1_
                    have p225 : 0 ≤ (x6_1 : Int) := of_decide_eq_true (by first | (with_reducible assumption) | assumption)
                    have q225 : x6_1 < (l0.length : Int) := of_decide_eq_true (by first | (with_reducible assumption) | assumption)
                    obtain ⟨ad225, e225, hx225_0⟩ := Kd.at_int HR0.out x6_1 p225 q225
                    have hw225_0 := hx225_0
                    cases e225
                    replace hx225_0 := (HB.out.cell (World.block_lt_of_cell? w _ hx225_0)).trans hx225_0
                    replace p225 := eq_true p225
                    replace q225 := eq_true q225
                    refine start_ (n := 8) (S := fun w' => w'.cell? ⟨gb224, 0, none⟩ = some (.int .u64 x225000_1) ∧ w'.cell? ⟨gb224, 1, none⟩ = some (.int .u64 x225001_1) ∧ w'.cell? ⟨gb224, 2, none⟩ = some (.int .u64 x225002_1) ∧ w'.cell? ⟨gb224, 3, none⟩ = some (.int .u64 x225003_1) ∧ w'.cell? (ad225.add (x6_1).toNat) = some (.int .u32 (rd l0 x6_1))) (ds := [7]) #[false, false, false, false, false, false, false, false] (by kernel_rfl) rfl rfl ⟨(blk_cell BK224.out 0).trans rfl, (blk_cell BK224.out 1).trans rfl, (blk_cell BK224.out 2).trans rfl, (blk_cell BK224.out 3).trans rfl, ((HB.out.cell (World.block_lt_of_cell? w _ hw225_0)).trans hw225_0)⟩ (fun hHeld => ?_); refine with_tabW wigwaglaw10_RenoSlow.tab7 wigwaglaw10_RenoSlow.bits7 (fun HT_ HW_ => ?_)
                    generalize wc.drew = w27 at BK224 HB hx225_0 hHeld ⊢
                    refine pure_ (i := 1) (N := some 20) (v := ?_) (a' := ?_) #[false, true, false, false, false, false, false, false] rfl rfl (any_of HT_.out (by kernel_rfl)) (fun _ _ _ h => h) (Or.inl ⟨by rfl, ?_⟩) ?_ ?_
                    rotate_left
                    · intro w'
                      go_simp
                      with_reducible rfl
                    rotate_left
                    · simp only [Act.put, List.setIfInBounds_toArray, List.set_cons_zero, List.set_cons_succ, i64_w, i32_w]
                      rfl
                    refine pure_ (i := 2) (N := some 21) (v := ?_) (a' := ?_) #[false, true, true, false, false, false, false, false] rfl rfl (any_of HT_.out (by kernel_rfl)) (fun _ _ _ h => h) (Or.inl ⟨by rfl, ?_⟩) ?_ ?_
                    rotate_left
                    · intro w'
                      go_simp
                      with_reducible rfl
                    rotate_left
                    · simp only [Act.put, List.setIfInBounds_toArray, List.set_cons_zero, List.set_cons_succ, i64_w, i32_w]
                      rfl
                    refine pure_ (i := 3) (N := some 22) (v := ?_) (a' := ?_) #[false, true, true, true, false, false, false, false] rfl rfl (any_of HT_.out (by kernel_rfl)) (fun _ _ _ h => h) (Or.inl ⟨by rfl, ?_⟩) ?_ ?_
                    rotate_left
                    · intro w'
                      go_simp
                      with_reducible rfl
                    rotate_left
                    · simp only [Act.put, List.setIfInBounds_toArray, List.set_cons_zero, List.set_cons_succ, i64_w, i32_w]
                      rfl
                    refine take_ (i := 0) (N := some 19) (v := ?_) (a' := ?_) #[true, true, true, true, false, false, false, false] rfl rfl (take_ofW HT_.out HW_.out (by kernel_rfl)) (fun _ _ _ h => h) (Or.inl ⟨by rfl, ?_⟩) hHeld ?_ ?_
                    rotate_left
                    · rintro w' ⟨s0, s1, s2, s3, s4⟩
                      go_simp
                      with_reducible rfl
                    rotate_left
                    · simp only [Act.put, List.setIfInBounds_toArray, List.set_cons_zero, List.set_cons_succ, i64_w, i32_w]
                      rfl
                    refine take_ (i := 4) (N := some 23) (v := ?_) (a' := ?_) #[true, true, true, true, true, false, false, false] rfl rfl (take_ofW HT_.out HW_.out (by kernel_rfl)) (fun _ _ _ h => h) (Or.inl ⟨by rfl, ?_⟩) hHeld ?_ ?_
                    rotate_left
                    · rintro w' ⟨s0, s1, s2, s3, s4⟩
                      go_simp
                      with_reducible rfl
                    rotate_left
                    · simp only [Act.put, List.setIfInBounds_toArray, List.set_cons_zero, List.set_cons_succ, i64_w, i32_w]
                      rfl
                    refine pure_ (i := 5) (N := some 24) (v := ?_) (a' := ?_) #[true, true, true, true, true, true, false, false] rfl rfl (any_of HT_.out (by kernel_rfl)) (fun _ _ _ h => h) (Or.inl ⟨by rfl, ?_⟩) ?_ ?_
                    rotate_left
                    · intro w'
                      go_simp
                      with_reducible rfl
                    rotate_left
                    · simp only [Act.put, List.setIfInBounds_toArray, List.set_cons_zero, List.set_cons_succ, i64_w, i32_w]
                      rfl
                    refine one_ (i := 6) (N := some 25) #[true, true, true, true, true, true, true, false] rfl rfl (one_of HT_.out (by kernel_rfl)) (by decide) (fun K hK => ?_)
                    refine goes_ Try.func11 (by kernel_rfl) rfl #[.agg #[.int .u64 x225000_1, .int .u64 x225001_1, .int .u64 x225002_1, .int .u64 x225003_1], .int .u64 (IntKind.u64.wrap (rd l0 x6_1)), .int .u64 0, .bool false] (by rfl) rfl rfl (by (try simp only [List.map_toArray, List.map_cons, List.map_nil]); first | done | rfl | (simp only [List.length_drop, List.length_take]; rfl)) ?_
                    with_reducible refine (reno_Ack.calls kj7 x225000_1 x225001_1 x225002_1 x225003_1 (IntKind.u64.wrap (rd l0 x6_1)) 0 false t226 t227 t228 t229 _ A13.out).mono ?_
                    rintro e w28 ⟨rfl, hb⟩
                    refine ⟨_, rfl, ?_⟩
                    have n0_ := Aside0.mk (blk_below (g := gb224) (o := .cells #[.int .u64 x225000_1, .int .u64 x225001_1, .int .u64 x225002_1, .int .u64 x225003_1] 25 (0, 0)) (by (with_reducible repeat (first | refine blk_drewN ?_ _ | refine blk_drew ?_ | refine blk_alloc ?_ _)); exact BK224.out) hb)
                    have n1_ := Aside0.mk (below_step (by repeat (first | (with_reducible first | exact HB.out | apply below_alloc | apply pw_below_drewN | apply below_drew1 | refine below_set ?_ GE224.out) | exact HB.out)) hb)
                    clear BK224
                    clear HB
                    have BK224 := n0_
                    have HB := n1_
                    clear n0_ n1_
                    (try clear hb)
                    (try clear hb2)
                    (try clear hk)
                    (try clear hi)
                    refine hK.out _ _ ⟨(blk_cell BK224.out 0).trans rfl, (blk_cell BK224.out 1).trans rfl, (blk_cell BK224.out 2).trans rfl, (blk_cell BK224.out 3).trans rfl, ((HB.out.cell (World.block_lt_of_cell? w _ hw225_0)).trans hw225_0)⟩ (fun hHeld => ?_)
                    clear hK K
                    refine norm_ (a' := ?_) ?_ ?_
                    rotate_left
                    · show Act.put _ (some 25) _ = _
                      simp only [Act.put, List.setIfInBounds_toArray, List.set_cons_zero, List.set_cons_succ, i64_w, i32_w]
                      rfl
                    refine last_ (i := 7) (N := none) #[true, true, true, true, true, true, true, true] rfl rfl (one_of HT_.out (by kernel_rfl)) (by decide) (fun K hK => ?_)
                    have hs29 : w28.cell? ⟨gb224, 0, none⟩ = some (.int .u64 x225000_1) := (blk_cell BK224.out 0).trans rfl
                    have hfs29 := blk_frozen BK224.out 0
                    have hs30 : w28.cell? ⟨gb224, 1, none⟩ = some (.int .u64 x225001_1) := (blk_cell BK224.out 1).trans rfl
                    have hfs30 := blk_frozen BK224.out 1
                    have hs31 : w28.cell? ⟨gb224, 2, none⟩ = some (.int .u64 x225002_1) := (blk_cell BK224.out 2).trans rfl
                    have hfs31 := blk_frozen BK224.out 2
                    have hs32 : w28.cell? ⟨gb224, 3, none⟩ = some (.int .u64 x225003_1) := (blk_cell BK224.out 3).trans rfl
                    have hfs32 := blk_frozen BK224.out 3
                    refine skip_ (w1 := ?_) (by rfl) rfl ?_ ?_
                    rotate_left
                    · go_simp
                      rfl
                    refine hK.out _ _ ?_
                    clear hK K
                    refine done_ (done_of HT_.out (by kernel_rfl)) ?_
                    have p230 : 0 ≤ (x6_1 : Int) := of_decide_eq_true (by first | (with_reducible assumption) | assumption)
                    have q230 : x6_1 < (l0.length : Int) := of_decide_eq_true (by first | (with_reducible assumption) | assumption)
                    obtain ⟨ad230, e230, hx230_0⟩ := Kd.at_int HR0.out x6_1 p230 q230
                    obtain rfl : ad225 = ad230 := (by injection e230)
                    have hn230_0 : ad225.block ≠ gb224 := Nat.ne_of_lt (Nat.lt_of_lt_of_le (by have := World.block_lt_of_cell? _ _ hx230_0; first | rwa [add_block] at this | exact this) GW224.out)
                    have hn230_1 : ad225.block ≠ gb224 := Nat.ne_of_lt (Nat.lt_of_lt_of_le (by have := World.block_lt_of_cell? _ _ hx230_0; first | rwa [add_block] at this | exact this) GW224.out)
                    have hn230_2 : ad225.block ≠ gb224 := Nat.ne_of_lt (Nat.lt_of_lt_of_le (by have := World.block_lt_of_cell? _ _ hx230_0; first | rwa [add_block] at this | exact this) GW224.out)
                    have hn230_3 : ad225.block ≠ gb224 := Nat.ne_of_lt (Nat.lt_of_lt_of_le (by have := World.block_lt_of_cell? _ _ hx230_0; first | rwa [add_block] at this | exact this) GW224.out)
                    replace hx230_0 := (HB.out.cell (World.block_lt_of_cell? w _ hx230_0)).trans hx230_0
                    replace hx230_0 := (cell_far (p := ⟨gb224, 0, none⟩) (by first | (rw [add_block]; exact hn230_0) | (show (Addr.add _ _).block ≠ _; rw [add_block]; exact hn230_0) | exact hn230_0) (.int .u64 t226)).trans hx230_0
                    replace hx230_0 := (cell_far (p := ⟨gb224, 1, none⟩) (by first | (rw [add_block]; exact hn230_1) | (show (Addr.add _ _).block ≠ _; rw [add_block]; exact hn230_1) | exact hn230_1) (.int .u64 t227)).trans hx230_0
                    replace hx230_0 := (cell_far (p := ⟨gb224, 2, none⟩) (by first | (rw [add_block]; exact hn230_2) | (show (Addr.add _ _).block ≠ _; rw [add_block]; exact hn230_2) | exact hn230_2) (.int .u64 t228)).trans hx230_0
                    replace hx230_0 := (cell_far (p := ⟨gb224, 3, none⟩) (by first | (rw [add_block]; exact hn230_3) | (show (Addr.add _ _).block ≠ _; rw [add_block]; exact hn230_3) | exact hn230_3) (.int .u64 t229)).trans hx230_0
                    clear hn230_0
                    clear hn230_1
                    clear hn230_2
                    clear hn230_3
                    replace p230 := eq_true p230
                    replace q230 := eq_true q230
                    have hcz33_0 : w28.cell? ⟨gb224, 0, none⟩ = some (.int .u64 x225000_1) := (blk_cell BK224.out 0).trans rfl
                    have hcz33_1 : w28.cell? ⟨gb224, 1, none⟩ = some (.int .u64 x225001_1) := (blk_cell BK224.out 1).trans rfl
                    have hcz33_2 : w28.cell? ⟨gb224, 2, none⟩ = some (.int .u64 x225002_1) := (blk_cell BK224.out 2).trans rfl
                    have hcz33_3 : w28.cell? ⟨gb224, 3, none⟩ = some (.int .u64 x225003_1) := (blk_cell BK224.out 3).trans rfl
                    have hfz33_0 := blk_frozen BK224.out 0
                    have hfz33_1 := blk_frozen BK224.out 1
                    have hfz33_2 := blk_frozen BK224.out 2
                    have hfz33_3 := blk_frozen BK224.out 3
                    try go_wp2
                    go_roundg kj7
                    case measure => have := HK1.out; have := HJ7.out; omega
                    case rel => exact ⟨(ji14), (wrap64 (x6_1 + 1)), (t226), (t227), (t228), (t229), (by first | rfl | (simp; done) | (simp only [← hji14] <;> (first | rfl | (simp; done))) | (simp [*]; done) | (simp only [← hji14]; congr 1; unfold mn mx; omega) | (simp only [← hji14]; congr 1; unfold mn; omega) | (simp only [← hji14]; congr 1; unfold mx; omega)), (by first | rfl | (simp; done) | (simp [*]; done)), H', ⟨by have := HK1.out; have := HJ7.out; omega⟩, ⟨by (with_reducible repeat (first | refine blk_drewN ?_ _ | refine blk_drew ?_ | refine blk_alloc ?_ _)); refine blk_put (cs := #[.int .u64 t226, .int .u64 t227, .int .u64 t228, .int .u64 x225003_1]) ?_ 3 _ rfl; (with_reducible repeat (first | refine blk_drewN ?_ _ | refine blk_drew ?_ | refine blk_alloc ?_ _)); refine blk_put (cs := #[.int .u64 t226, .int .u64 t227, .int .u64 x225002_1, .int .u64 x225003_1]) ?_ 2 _ rfl; (with_reducible repeat (first | refine blk_drewN ?_ _ | refine blk_drew ?_ | refine blk_alloc ?_ _)); refine blk_put (cs := #[.int .u64 t226, .int .u64 x225001_1, .int .u64 x225002_1, .int .u64 x225003_1]) ?_ 1 _ rfl; (with_reducible repeat (first | refine blk_drewN ?_ _ | refine blk_drew ?_ | refine blk_alloc ?_ _)); refine blk_put (cs := #[.int .u64 x225000_1, .int .u64 x225001_1, .int .u64 x225002_1, .int .u64 x225003_1]) ?_ 0 _ rfl; (with_reducible repeat (first | refine blk_drewN ?_ _ | refine blk_drew ?_ | refine blk_alloc ?_ _)); exact BK224.out⟩, ⟨by repeat (first | (with_reducible first | exact HB.out | apply below_alloc | apply pw_below_drewN | apply below_drew1 | refine below_set ?_ GE224.out) | exact HB.out)⟩⟩
                · rw [if_neg c15] at H
                  have c15b0 : (t226 == (ji14)) = false := beq_eq_false_iff_ne.mpr c15
                  have c15b1 : (t226 != (ji14)) = true := bne_iff_ne.mpr c15
                  have HS34 := Aside0.mk H
                  clear H
                  try go_wp2
                  have n0_ := Aside0.mk (blk_drew BK224.out)
                  have n1_ := Aside0.mk (below_drew1 HB.out)
                  clear BK224
                  clear HB
                  have BK224 := n0_
                  have HB := n1_
                  clear n0_ n1_
                  have p225 : 0 ≤ (x6_1 : Int) := of_decide_eq_true (by first | (with_reducible assumption) | assumption)
                  have q225 : x6_1 < (l0.length : Int) := of_decide_eq_true (by first | (with_reducible assumption) | assumption)
                  obtain ⟨ad225, e225, hx225_0⟩ := Kd.at_int HR0.out x6_1 p225 q225
                  have hw225_0 := hx225_0
                  cases e225
                  replace hx225_0 := (HB.out.cell (World.block_lt_of_cell? w _ hx225_0)).trans hx225_0
                  replace p225 := eq_true p225
                  replace q225 := eq_true q225
                  refine start_ (n := 8) (S := fun w' => w'.cell? ⟨gb224, 0, none⟩ = some (.int .u64 x225000_1) ∧ w'.cell? ⟨gb224, 1, none⟩ = some (.int .u64 x225001_1) ∧ w'.cell? ⟨gb224, 2, none⟩ = some (.int .u64 x225002_1) ∧ w'.cell? ⟨gb224, 3, none⟩ = some (.int .u64 x225003_1) ∧ w'.cell? (ad225.add (x6_1).toNat) = some (.int .u32 (rd l0 x6_1))) (ds := [7]) #[false, false, false, false, false, false, false, false] (by kernel_rfl) rfl rfl ⟨(blk_cell BK224.out 0).trans rfl, (blk_cell BK224.out 1).trans rfl, (blk_cell BK224.out 2).trans rfl, (blk_cell BK224.out 3).trans rfl, ((HB.out.cell (World.block_lt_of_cell? w _ hw225_0)).trans hw225_0)⟩ (fun hHeld => ?_); refine with_tabW wigwaglaw10_RenoSlow.tab7 wigwaglaw10_RenoSlow.bits7 (fun HT_ HW_ => ?_)
                  generalize wc.drew = w35 at BK224 HB hx225_0 hHeld ⊢
                  refine pure_ (i := 1) (N := some 20) (v := ?_) (a' := ?_) #[false, true, false, false, false, false, false, false] rfl rfl (any_of HT_.out (by kernel_rfl)) (fun _ _ _ h => h) (Or.inl ⟨by rfl, ?_⟩) ?_ ?_
                  rotate_left
                  · intro w'
                    go_simp
                    with_reducible rfl
                  rotate_left
                  · simp only [Act.put, List.setIfInBounds_toArray, List.set_cons_zero, List.set_cons_succ, i64_w, i32_w]
                    rfl
                  refine pure_ (i := 2) (N := some 21) (v := ?_) (a' := ?_) #[false, true, true, false, false, false, false, false] rfl rfl (any_of HT_.out (by kernel_rfl)) (fun _ _ _ h => h) (Or.inl ⟨by rfl, ?_⟩) ?_ ?_
                  rotate_left
                  · intro w'
                    go_simp
                    with_reducible rfl
                  rotate_left
                  · simp only [Act.put, List.setIfInBounds_toArray, List.set_cons_zero, List.set_cons_succ, i64_w, i32_w]
                    rfl
                  refine pure_ (i := 3) (N := some 22) (v := ?_) (a' := ?_) #[false, true, true, true, false, false, false, false] rfl rfl (any_of HT_.out (by kernel_rfl)) (fun _ _ _ h => h) (Or.inl ⟨by rfl, ?_⟩) ?_ ?_
                  rotate_left
                  · intro w'
                    go_simp
                    with_reducible rfl
                  rotate_left
                  · simp only [Act.put, List.setIfInBounds_toArray, List.set_cons_zero, List.set_cons_succ, i64_w, i32_w]
                    rfl
                  refine take_ (i := 0) (N := some 19) (v := ?_) (a' := ?_) #[true, true, true, true, false, false, false, false] rfl rfl (take_ofW HT_.out HW_.out (by kernel_rfl)) (fun _ _ _ h => h) (Or.inl ⟨by rfl, ?_⟩) hHeld ?_ ?_
                  rotate_left
                  · rintro w' ⟨s0, s1, s2, s3, s4⟩
                    go_simp
                    with_reducible rfl
                  rotate_left
                  · simp only [Act.put, List.setIfInBounds_toArray, List.set_cons_zero, List.set_cons_succ, i64_w, i32_w]
                    rfl
                  refine take_ (i := 4) (N := some 23) (v := ?_) (a' := ?_) #[true, true, true, true, true, false, false, false] rfl rfl (take_ofW HT_.out HW_.out (by kernel_rfl)) (fun _ _ _ h => h) (Or.inl ⟨by rfl, ?_⟩) hHeld ?_ ?_
                  rotate_left
                  · rintro w' ⟨s0, s1, s2, s3, s4⟩
                    go_simp
                    with_reducible rfl
                  rotate_left
                  · simp only [Act.put, List.setIfInBounds_toArray, List.set_cons_zero, List.set_cons_succ, i64_w, i32_w]
                    rfl
                  refine pure_ (i := 5) (N := some 24) (v := ?_) (a' := ?_) #[true, true, true, true, true, true, false, false] rfl rfl (any_of HT_.out (by kernel_rfl)) (fun _ _ _ h => h) (Or.inl ⟨by rfl, ?_⟩) ?_ ?_
                  rotate_left
                  · intro w'
                    go_simp
                    with_reducible rfl
                  rotate_left
                  · simp only [Act.put, List.setIfInBounds_toArray, List.set_cons_zero, List.set_cons_succ, i64_w, i32_w]
                    rfl
                  refine one_ (i := 6) (N := some 25) #[true, true, true, true, true, true, true, false] rfl rfl (one_of HT_.out (by kernel_rfl)) (by decide) (fun K hK => ?_)
                  refine goes_ Try.func11 (by kernel_rfl) rfl #[.agg #[.int .u64 x225000_1, .int .u64 x225001_1, .int .u64 x225002_1, .int .u64 x225003_1], .int .u64 (IntKind.u64.wrap (rd l0 x6_1)), .int .u64 0, .bool false] (by rfl) rfl rfl (by (try simp only [List.map_toArray, List.map_cons, List.map_nil]); first | done | rfl | (simp only [List.length_drop, List.length_take]; rfl)) ?_
                  with_reducible refine (reno_Ack.calls kj7 x225000_1 x225001_1 x225002_1 x225003_1 (IntKind.u64.wrap (rd l0 x6_1)) 0 false t226 t227 t228 t229 _ A13.out).mono ?_
                  rintro e w36 ⟨rfl, hb⟩
                  refine ⟨_, rfl, ?_⟩
                  have n0_ := Aside0.mk (blk_below (g := gb224) (o := .cells #[.int .u64 x225000_1, .int .u64 x225001_1, .int .u64 x225002_1, .int .u64 x225003_1] 25 (0, 0)) (by (with_reducible repeat (first | refine blk_drewN ?_ _ | refine blk_drew ?_ | refine blk_alloc ?_ _)); exact BK224.out) hb)
                  have n1_ := Aside0.mk (below_step (by repeat (first | (with_reducible first | exact HB.out | apply below_alloc | apply pw_below_drewN | apply below_drew1 | refine below_set ?_ GE224.out) | exact HB.out)) hb)
                  clear BK224
                  clear HB
                  have BK224 := n0_
                  have HB := n1_
                  clear n0_ n1_
                  (try clear hb)
                  (try clear hb2)
                  (try clear hk)
                  (try clear hi)
                  refine hK.out _ _ ⟨(blk_cell BK224.out 0).trans rfl, (blk_cell BK224.out 1).trans rfl, (blk_cell BK224.out 2).trans rfl, (blk_cell BK224.out 3).trans rfl, ((HB.out.cell (World.block_lt_of_cell? w _ hw225_0)).trans hw225_0)⟩ (fun hHeld => ?_)
                  clear hK K
                  refine norm_ (a' := ?_) ?_ ?_
                  rotate_left
                  · show Act.put _ (some 25) _ = _
                    simp only [Act.put, List.setIfInBounds_toArray, List.set_cons_zero, List.set_cons_succ, i64_w, i32_w]
                    rfl
                  refine last_ (i := 7) (N := none) #[true, true, true, true, true, true, true, true] rfl rfl (one_of HT_.out (by kernel_rfl)) (by decide) (fun K hK => ?_)
                  have hs37 : w36.cell? ⟨gb224, 0, none⟩ = some (.int .u64 x225000_1) := (blk_cell BK224.out 0).trans rfl
                  have hfs37 := blk_frozen BK224.out 0
                  have hs38 : w36.cell? ⟨gb224, 1, none⟩ = some (.int .u64 x225001_1) := (blk_cell BK224.out 1).trans rfl
                  have hfs38 := blk_frozen BK224.out 1
                  have hs39 : w36.cell? ⟨gb224, 2, none⟩ = some (.int .u64 x225002_1) := (blk_cell BK224.out 2).trans rfl
                  have hfs39 := blk_frozen BK224.out 2
                  have hs40 : w36.cell? ⟨gb224, 3, none⟩ = some (.int .u64 x225003_1) := (blk_cell BK224.out 3).trans rfl
                  have hfs40 := blk_frozen BK224.out 3
                  refine skip_ (w1 := ?_) (by rfl) rfl ?_ ?_
                  rotate_left
                  · go_simp
                    rfl
                  refine hK.out _ _ ?_
                  clear hK K
                  refine done_ (done_of HT_.out (by kernel_rfl)) ?_
                  have p230 : 0 ≤ (x6_1 : Int) := of_decide_eq_true (by first | (with_reducible assumption) | assumption)
                  have q230 : x6_1 < (l0.length : Int) := of_decide_eq_true (by first | (with_reducible assumption) | assumption)
                  obtain ⟨ad230, e230, hx230_0⟩ := Kd.at_int HR0.out x6_1 p230 q230
                  obtain rfl : ad225 = ad230 := (by injection e230)
                  have hn230_0 : ad225.block ≠ gb224 := Nat.ne_of_lt (Nat.lt_of_lt_of_le (by have := World.block_lt_of_cell? _ _ hx230_0; first | rwa [add_block] at this | exact this) GW224.out)
                  have hn230_1 : ad225.block ≠ gb224 := Nat.ne_of_lt (Nat.lt_of_lt_of_le (by have := World.block_lt_of_cell? _ _ hx230_0; first | rwa [add_block] at this | exact this) GW224.out)
                  have hn230_2 : ad225.block ≠ gb224 := Nat.ne_of_lt (Nat.lt_of_lt_of_le (by have := World.block_lt_of_cell? _ _ hx230_0; first | rwa [add_block] at this | exact this) GW224.out)
                  have hn230_3 : ad225.block ≠ gb224 := Nat.ne_of_lt (Nat.lt_of_lt_of_le (by have := World.block_lt_of_cell? _ _ hx230_0; first | rwa [add_block] at this | exact this) GW224.out)
                  replace hx230_0 := (HB.out.cell (World.block_lt_of_cell? w _ hx230_0)).trans hx230_0
                  replace hx230_0 := (cell_far (p := ⟨gb224, 0, none⟩) (by first | (rw [add_block]; exact hn230_0) | (show (Addr.add _ _).block ≠ _; rw [add_block]; exact hn230_0) | exact hn230_0) (.int .u64 t226)).trans hx230_0
                  replace hx230_0 := (cell_far (p := ⟨gb224, 1, none⟩) (by first | (rw [add_block]; exact hn230_1) | (show (Addr.add _ _).block ≠ _; rw [add_block]; exact hn230_1) | exact hn230_1) (.int .u64 t227)).trans hx230_0
                  replace hx230_0 := (cell_far (p := ⟨gb224, 2, none⟩) (by first | (rw [add_block]; exact hn230_2) | (show (Addr.add _ _).block ≠ _; rw [add_block]; exact hn230_2) | exact hn230_2) (.int .u64 t228)).trans hx230_0
                  replace hx230_0 := (cell_far (p := ⟨gb224, 3, none⟩) (by first | (rw [add_block]; exact hn230_3) | (show (Addr.add _ _).block ≠ _; rw [add_block]; exact hn230_3) | exact hn230_3) (.int .u64 t229)).trans hx230_0
                  clear hn230_0
                  clear hn230_1
                  clear hn230_2
                  clear hn230_3
                  replace p230 := eq_true p230
                  replace q230 := eq_true q230
                  have hcz41_0 : w36.cell? ⟨gb224, 0, none⟩ = some (.int .u64 x225000_1) := (blk_cell BK224.out 0).trans rfl
                  have hcz41_1 : w36.cell? ⟨gb224, 1, none⟩ = some (.int .u64 x225001_1) := (blk_cell BK224.out 1).trans rfl
                  have hcz41_2 : w36.cell? ⟨gb224, 2, none⟩ = some (.int .u64 x225002_1) := (blk_cell BK224.out 2).trans rfl
                  have hcz41_3 : w36.cell? ⟨gb224, 3, none⟩ = some (.int .u64 x225003_1) := (blk_cell BK224.out 3).trans rfl
                  have hfz41_0 := blk_frozen BK224.out 0
                  have hfz41_1 := blk_frozen BK224.out 1
                  have hfz41_2 := blk_frozen BK224.out 2
                  have hfz41_3 := blk_frozen BK224.out 3
                  go_upto_region 10 with (fail)
                  (try simp only [Act.put, List.setIfInBounds_toArray, List.set_cons_zero, List.set_cons_succ])
                  have H := HS34.out
                  clear HS34
                  by_cases c42 : (ji14) = 16777216
                  · rw [if_pos c42] at H
                    have c42b0 : ((ji14) == 16777216) = true := beq_iff_eq.mpr c42
                    have c42b1 : ((ji14) != 16777216) = false := bne_eq_false_iff_eq.mpr c42
                    clear c42
                    obtain rfl := Option.some.inj H
                    have hcz43_0 : w36.cell? ⟨gb224, 0, none⟩ = some (.int .u64 x225000_1) := (blk_cell BK224.out 0).trans rfl
                    have hcz43_1 : w36.cell? ⟨gb224, 1, none⟩ = some (.int .u64 x225001_1) := (blk_cell BK224.out 1).trans rfl
                    have hcz43_2 : w36.cell? ⟨gb224, 2, none⟩ = some (.int .u64 x225002_1) := (blk_cell BK224.out 2).trans rfl
                    have hcz43_3 : w36.cell? ⟨gb224, 3, none⟩ = some (.int .u64 x225003_1) := (blk_cell BK224.out 3).trans rfl
                    have hfz43_0 := blk_frozen BK224.out 0
                    have hfz43_1 := blk_frozen BK224.out 1
                    have hfz43_2 := blk_frozen BK224.out 2
                    have hfz43_3 := blk_frozen BK224.out 3
                    go_wp2
                    go_ret
                    exact ⟨by first | rfl | (simp [errW_none, errW_some] <;> rfl) | (simp only [← hji14]; first | rfl | (simp [errW_none, errW_some] <;> rfl)) | (simp [*, errW_none, errW_some] <;> rfl), by repeat (first | (with_reducible first | exact HB.out | apply below_alloc | apply pw_below_drewN | apply below_drew1 | refine below_set ?_ GE224.out) | exact HB.out)⟩
                  · rw [if_neg c42] at H
                    have c42b0 : ((ji14) == 16777216) = false := beq_eq_false_iff_ne.mpr c42
                    have c42b1 : ((ji14) != 16777216) = true := bne_iff_ne.mpr c42
                    obtain rfl := Option.some.inj H
                    go_wp2
                    go_ret
                    exact ⟨by first | rfl | (simp [errW_none, errW_some] <;> rfl) | (simp only [← hji14]; first | rfl | (simp [errW_none, errW_some] <;> rfl)) | (simp [*, errW_none, errW_some] <;> rfl), by repeat (first | (with_reducible first | exact HB.out | apply below_alloc | apply pw_below_drewN | apply below_drew1 | refine below_set ?_ GE224.out) | exact HB.out)⟩
              · rw [if_neg c12] at H
                exact absurd H (by simp)
            · rw [if_neg c11] at H
              exact absurd H (by simp)
          · replace c10 := Bool.eq_false_iff.mpr c10
            subst c10
            have H1 : (if t219 = true then (if x225000_1 = x5_1 then (some (x225001_1 == 16777216)) else (some false)) else (some false)) = some r := by rw [if_neg (show ¬ (false = true) by decide)] at H; exact H
            clear H
            have H := H1
            clear H1
            by_cases c44 : t219 = true
            · subst c44
              have H1 : (if x225000_1 = x5_1 then (some (x225001_1 == 16777216)) else (some false)) = some r := by rw [if_pos rfl] at H; exact H
              clear H
              have H := H1
              clear H1
              by_cases c45 : x225000_1 = x5_1
              · rw [if_pos c45] at H
                have c45b0 : (x225000_1 == x5_1) = true := beq_iff_eq.mpr c45
                have c45b1 : (x225000_1 != x5_1) = false := bne_eq_false_iff_eq.mpr c45
                clear c45
                obtain rfl := Option.some.inj H
                have hcz46_0 : wc.cell? ⟨gb224, 0, none⟩ = some (.int .u64 x225000_1) := (blk_cell BK224.out 0).trans rfl
                have hcz46_1 : wc.cell? ⟨gb224, 1, none⟩ = some (.int .u64 x225001_1) := (blk_cell BK224.out 1).trans rfl
                have hcz46_2 : wc.cell? ⟨gb224, 2, none⟩ = some (.int .u64 x225002_1) := (blk_cell BK224.out 2).trans rfl
                have hcz46_3 : wc.cell? ⟨gb224, 3, none⟩ = some (.int .u64 x225003_1) := (blk_cell BK224.out 3).trans rfl
                have hfz46_0 := blk_frozen BK224.out 0
                have hfz46_1 := blk_frozen BK224.out 1
                have hfz46_2 := blk_frozen BK224.out 2
                have hfz46_3 := blk_frozen BK224.out 3
                go_wp2
                go_ret
                exact ⟨by first | rfl | (simp [errW_none, errW_some] <;> rfl) | (simp [*, errW_none, errW_some] <;> rfl), by repeat (first | (with_reducible first | exact HB.out | apply below_alloc | apply pw_below_drewN | apply below_drew1 | refine below_set ?_ GE224.out) | exact HB.out)⟩
              · rw [if_neg c45] at H
                have c45b0 : (x225000_1 == x5_1) = false := beq_eq_false_iff_ne.mpr c45
                have c45b1 : (x225000_1 != x5_1) = true := bne_iff_ne.mpr c45
                obtain rfl := Option.some.inj H
                have hcz47_0 : wc.cell? ⟨gb224, 0, none⟩ = some (.int .u64 x225000_1) := (blk_cell BK224.out 0).trans rfl
                have hcz47_1 : wc.cell? ⟨gb224, 1, none⟩ = some (.int .u64 x225001_1) := (blk_cell BK224.out 1).trans rfl
                have hcz47_2 : wc.cell? ⟨gb224, 2, none⟩ = some (.int .u64 x225002_1) := (blk_cell BK224.out 2).trans rfl
                have hcz47_3 : wc.cell? ⟨gb224, 3, none⟩ = some (.int .u64 x225003_1) := (blk_cell BK224.out 3).trans rfl
                have hfz47_0 := blk_frozen BK224.out 0
                have hfz47_1 := blk_frozen BK224.out 1
                have hfz47_2 := blk_frozen BK224.out 2
                have hfz47_3 := blk_frozen BK224.out 3
                go_wp2
                go_ret
                exact ⟨by first | rfl | (simp [errW_none, errW_some] <;> rfl) | (simp [*, errW_none, errW_some] <;> rfl), by repeat (first | (with_reducible first | exact HB.out | apply below_alloc | apply pw_below_drewN | apply below_drew1 | refine below_set ?_ GE224.out) | exact HB.out)⟩
            · replace c44 := Bool.eq_false_iff.mpr c44
              subst c44
              have H1 : (some false) = some r := by rw [if_neg (show ¬ (false = true) by decide)] at H; exact H
              clear H
              have H := H1
              clear H1
              obtain rfl := Option.some.inj H
              go_wp2
              go_ret
              exact ⟨by first | rfl | (simp [errW_none, errW_some] <;> rfl) | (simp [*, errW_none, errW_some] <;> rfl), by repeat (first | (with_reducible first | exact HB.out | apply below_alloc | apply pw_below_drewN | apply below_drew1 | refine below_set ?_ GE224.out) | exact HB.out)⟩

/-- THE ONE PURE STATEMENT of wigwaglaw10_RenoSlow: yours. -/
def wigwaglaw10_RenoSlow.Pure : Prop := ∀ (l0 : List Int), l0.length ≤ maxLen → l0.length * 4 ≤ 140737488351232 → (∀ x ∈ l0, (Lit.int .u32 x).wf = true) → ∃ k, wigwaglaw10_RenoSlow.f k l0 = some true
theorem wigwaglaw10_RenoSlow.walk (P : wigwaglaw10_RenoSlow.Pure) (a0 : Option Addr) (len0 cap0 : Nat) (z0 : List Int) (w : World) (w0 : (a0 = none ∧ len0 = 0 ∧ cap0 = 0 ∧ z0 = []) ∨ ∃ x, a0 = some x ∧ len0 ≤ cap0 ∧ cap0 ≤ maxLen ∧ z0.length = cap0 ∧ (∀ i, i < z0.length → w.cell? (x.add i) = some (.int .u32 (z0.getD i 0))) ∧ ∀ n ∈ z0, (Lit.int .u32 n).wf = true) (y0 : len0 * 4 ≤ 140737488351232) :
    Calls Try.prog 8 #[.slice a0 len0 cap0] w fun e w' => e = .returned (.bool true) ∧ Below w.heap.size w w' := by
  obtain ⟨l0, rfl, hr0, hm0, hw0, hc0⟩ := ReadsInt.ofRowC w0
  obtain ⟨k, h⟩ := P l0 hm0 y0 hw0
  refine (wigwaglaw10_RenoSlow.calls k _ _ l0 true w (Kd.C_of_reads (d := (0 : Int)) (h1 := fun _ => rfl) hr0) hc0 h).mono ?_
  rintro e w' ⟨rfl, hd⟩
  exact ⟨rfl, hd⟩

end Go.Proofs.Ytmajccpifkbdpaa.P
