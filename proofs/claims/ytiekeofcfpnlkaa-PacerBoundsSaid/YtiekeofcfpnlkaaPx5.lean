-- Printed for this claim by xprint.py of this session: contracts of this session's own stand in for what the print does not take
import Derived.Test.YtiekeofcfpnlkaaPx0
import Derived.Test.YtiekeofcfpnlkaaPx2
import Derived.Test.YtiekeofcfpnlkaaPx3
import Derived.Test.YtiekeofcfpnlkaaPx4
namespace Go.Proofs.Ytiekeofcfpnlkaa.P
open Go.RowKit Go.Proofs.YtiekeofcfpnlkaaW.PrintWords Go.Proofs.YtiekeofcfpnlkaaW.PrintLast Go.Proofs.YtiekeofcfpnlkaaW.PrintMore
attribute [local go_sem] max2_int min2_int max_two min_two max_three min_three max_four min_four   -- for this text's walks alone
set_option linter.unusedVariables false
set_option linter.unusedSimpArgs false

/-! ### wigwaglaw16_PacerBounds: function 4 -/
mutual
def wigwaglaw16_PacerBounds.l0 : Nat → Int → Int → List Int → List Int → Bool → Int → Int → Int → Int → Int → Int → Option (Bool)
  | 0, _, _, _, _, _, _, _, _, _, _, _ => none
  | k + 1, x0, x1, x2, x3, x9, x11, x12, x13, x142000, x142001, x142002 => if x13 < (x2.length : Int) then (if x13 < (x3.length : Int) then (wigwaglaw16_PacerBounds.j1 k x0 x1 x2 x3 x9 x11 x12 x13 (decide (x13 < 100)) x142000 x142001 x142002) else (wigwaglaw16_PacerBounds.j1 k x0 x1 x2 x3 x9 x11 x12 x13 false x142000 x142001 x142002)) else (wigwaglaw16_PacerBounds.j1 k x0 x1 x2 x3 x9 x11 x12 x13 false x142000 x142001 x142002)
def wigwaglaw16_PacerBounds.j1 : Nat → Int → Int → List Int → List Int → Bool → Int → Int → Int → Bool → Int → Int → Int → Option (Bool)
  | 0, _, _, _, _, _, _, _, _, _, _, _, _ => none
  | k + 1, x0, x1, x2, x3, x9, x11, x12, x13, x33, x142000, x142001, x142002 => if x33 = true then (if 0 ≤ x13 then (if x13 < (x2.length : Int) then ((pacer_Fill.f x142000 x142001 x142002 (IntKind.u64.wrap (x11 + (IntKind.u64.wrap (rd x2 x13)))) (IntKind.u64.wrap (x1)) (IntKind.u64.wrap (x0))).bind fun bt143 => (if x13 < (x3.length : Int) then ((pacer_Take.f bt143.1 bt143.2.1 bt143.2.2 (IntKind.u64.wrap (rd x3 x13))).bind fun bt147 => (if bt147.2.2.2 = true then (if (IntKind.u64.wrap (x12 + (IntKind.u64.wrap (rd x3 x13)))) > (IntKind.u64.wrap ((IntKind.u64.wrap (x0)) + (IntKind.u64.wrap (Int.tdiv (IntKind.u64.wrap ((IntKind.u64.wrap (x1)) * (IntKind.u64.wrap (x11 + (IntKind.u64.wrap (rd x2 x13)))))) 1000)))) then (some false) else (if bt147.2.1 > (IntKind.u64.wrap (x0)) then (some false) else (if bt147.2.2.1 > 999 then (some false) else (wigwaglaw16_PacerBounds.l0 k x0 x1 x2 x3 x9 (IntKind.u64.wrap (x11 + (IntKind.u64.wrap (rd x2 x13)))) (IntKind.u64.wrap (x12 + (IntKind.u64.wrap (rd x3 x13)))) (wrap64 (x13 + 1)) bt147.1 bt147.2.1 bt147.2.2.1)))) else (if x12 > (IntKind.u64.wrap ((IntKind.u64.wrap (x0)) + (IntKind.u64.wrap (Int.tdiv (IntKind.u64.wrap ((IntKind.u64.wrap (x1)) * (IntKind.u64.wrap (x11 + (IntKind.u64.wrap (rd x2 x13)))))) 1000)))) then (some false) else (if bt147.2.1 > (IntKind.u64.wrap (x0)) then (some false) else (if bt147.2.2.1 > 999 then (some false) else (wigwaglaw16_PacerBounds.l0 k x0 x1 x2 x3 x9 (IntKind.u64.wrap (x11 + (IntKind.u64.wrap (rd x2 x13)))) x12 (wrap64 (x13 + 1)) bt147.1 bt147.2.1 bt147.2.2.1)))))) else (none))) else (none)) else (none)) else (some x9)
end
def wigwaglaw16_PacerBounds.f (k : Nat) (a0 : Int) (a1 : Int) (l2 : List Int) (l3 : List Int) : Option (Bool) := (wigwaglaw16_awake.f).bind fun t137 => ((pacer_New.f 0 (IntKind.u64.wrap (a0))).bind fun bt138 => (wigwaglaw16_PacerBounds.l0 k a0 a1 l2 l3 t137 0 0 0 bt138.1 bt138.2.1 bt138.2.2))
theorem wigwaglaw16_PacerBounds.mono_l : ∀ k, (∀ y0 y1 y2 y3 y4 y5 y6 y7 y8 y9 y10, LeO (wigwaglaw16_PacerBounds.l0 k y0 y1 y2 y3 y4 y5 y6 y7 y8 y9 y10) (wigwaglaw16_PacerBounds.l0 (k + 1) y0 y1 y2 y3 y4 y5 y6 y7 y8 y9 y10)) ∧ (∀ y0 y1 y2 y3 y4 y5 y6 y7 y8 y9 y10 y11, LeO (wigwaglaw16_PacerBounds.j1 k y0 y1 y2 y3 y4 y5 y6 y7 y8 y9 y10 y11) (wigwaglaw16_PacerBounds.j1 (k + 1) y0 y1 y2 y3 y4 y5 y6 y7 y8 y9 y10 y11))
  | 0 => ⟨fun _ _ _ _ _ _ _ _ _ _ _ r h => by simp [wigwaglaw16_PacerBounds.l0] at h, fun _ _ _ _ _ _ _ _ _ _ _ _ r h => by simp [wigwaglaw16_PacerBounds.j1] at h⟩
  | k + 1 => by
    obtain ⟨ih0, ih1⟩ := wigwaglaw16_PacerBounds.mono_l k
    refine ⟨?_, ?_⟩
    · intro y0 y1 y2 y3 y4 y5 y6 y7 y8 y9 y10
      unfold wigwaglaw16_PacerBounds.l0
      repeat' first
      | (with_reducible exact ih0 _ _ _ _ _ _ _ _ _ _ _)
      | (with_reducible exact ih1 _ _ _ _ _ _ _ _ _ _ _ _)
      | (with_reducible exact LeO.refl _)
      | (with_reducible exact LeO.none _)
      | (with_reducible refine LeO.ite ?_ ?_)
      | (with_reducible refine LeO.bind ?_ (fun _ => ?_))
      | exact ih0 _ _ _ _ _ _ _ _ _ _ _
      | exact ih1 _ _ _ _ _ _ _ _ _ _ _ _
      | exact LeO.none _
      | refine LeO.ite ?_ ?_
      | refine LeO.bind ?_ (fun _ => ?_)
    · intro y0 y1 y2 y3 y4 y5 y6 y7 y8 y9 y10 y11
      unfold wigwaglaw16_PacerBounds.j1
      repeat' first
      | (with_reducible exact ih0 _ _ _ _ _ _ _ _ _ _ _)
      | (with_reducible exact ih1 _ _ _ _ _ _ _ _ _ _ _ _)
      | (with_reducible exact LeO.refl _)
      | (with_reducible exact LeO.none _)
      | (with_reducible refine LeO.ite ?_ ?_)
      | (with_reducible refine LeO.bind ?_ (fun _ => ?_))
      | exact ih0 _ _ _ _ _ _ _ _ _ _ _
      | exact ih1 _ _ _ _ _ _ _ _ _ _ _ _
      | exact LeO.none _
      | refine LeO.ite ?_ ?_
      | refine LeO.bind ?_ (fun _ => ?_)
theorem wigwaglaw16_PacerBounds.mono : ∀ a0 a1 a2 a3 k, LeO (wigwaglaw16_PacerBounds.f k a0 a1 a2 a3) (wigwaglaw16_PacerBounds.f (k + 1) a0 a1 a2 a3) := by
  intro a0 a1 a2 a3 k
  obtain ⟨ih0, ih1⟩ := wigwaglaw16_PacerBounds.mono_l k
  unfold wigwaglaw16_PacerBounds.f
  repeat' first
      | (with_reducible exact ih0 _ _ _ _ _ _ _ _ _ _ _)
      | (with_reducible exact ih1 _ _ _ _ _ _ _ _ _ _ _ _)
      | (with_reducible exact LeO.refl _)
      | (with_reducible exact LeO.none _)
      | (with_reducible refine LeO.ite ?_ ?_)
      | (with_reducible refine LeO.bind ?_ (fun _ => ?_))
      | exact ih0 _ _ _ _ _ _ _ _ _ _ _
      | exact ih1 _ _ _ _ _ _ _ _ _ _ _ _
      | exact LeO.none _
      | refine LeO.ite ?_ ?_
      | refine LeO.bind ?_ (fun _ => ?_)
def wigwaglaw16_PacerBounds.T10 : Bool × List (List Nat × List Nat) := (true, [([], []), ([], []), ([], []), ([1, 2], [1, 2]), ([3], [3]), ([4], [4]), ([0, 5], [0, 5]), ([6], [6]), ([7], [7]), ([7], [7]), ([], []), ([10, 8, 6, 0, 1, 2, 3, 4, 5, 6, 7, 8, 10], [8, 10]), ([9, 11, 0, 1, 2, 3, 4, 5, 6, 7, 8, 9, 10, 11], [9])])
def wigwaglaw16_PacerBounds.B10 : List Nat := [0, 0, 0, 6, 14, 30, 63, 127, 255, 255, 0, 1535, 4095]
theorem wigwaglaw16_PacerBounds.tab10 : rtab .any (opsOf Try.f4 10) = wigwaglaw16_PacerBounds.T10 := by kernel_rfl
theorem wigwaglaw16_PacerBounds.bits10 : waitsOk wigwaglaw16_PacerBounds.T10.2 wigwaglaw16_PacerBounds.B10 = true := by kernel_rfl
set_option maxHeartbeats 8000000 in
set_option maxRecDepth 100000 in
theorem wigwaglaw16_PacerBounds.calls (k : Nat) (a0 : Int) (a1 : Int) (A2 : Option Addr) (c2 : Nat) (l2 : List Int) (A3 : Option Addr) (c3 : Nat) (l3 : List Int) (r : Bool) (w : World) (hr2 : Kd.C (Kd.int .u16) w A2 l2.length l2) (hc2 : l2.length ≤ c2) (hr3 : Kd.C (Kd.int .u16) w A3 l3.length l3) (hc3 : l3.length ≤ c3) (h : wigwaglaw16_PacerBounds.f k a0 a1 l2 l3 = some r) :
    Calls Try.prog 4 #[.int .u32 a0, .int .u32 a1, .slice A2 l2.length c2, .slice A3 l3.length c3] w fun e w' => e = .returned (.bool r) ∧ Below w.heap.size w w' := by
  have hu24 := Try.underlying24
  have HR2 := Aside0.mk hr2
  have HC2 := Aside0.mk hc2
  clear hr2 hc2
  have HR3 := Aside0.mk hr3
  have HC3 := Aside0.mk hc3
  clear hr3 hc3
  have HB := Aside0.mk (Below.refl w.heap.size w)
  have H : ((wigwaglaw16_awake.f).bind fun t137 => ((pacer_New.f 0 (IntKind.u64.wrap (a0))).bind fun bt138 => (wigwaglaw16_PacerBounds.l0 k a0 a1 l2 l3 t137 0 0 0 bt138.1 bt138.2.1 bt138.2.2))) = some r := h
  clear h
  replace H := Option.bind_eq_some_iff.mp H
  obtain ⟨t137, A50, H⟩ := H
  replace H : ((pacer_New.f 0 (IntKind.u64.wrap (a0))).bind fun bt138 => (wigwaglaw16_PacerBounds.l0 k a0 a1 l2 l3 t137 0 0 0 bt138.1 bt138.2.1 bt138.2.2)) = some r := H
  have A5 := Aside0.mk A50
  clear A50
  replace H := Option.bind_eq_some_iff.mp H
  obtain ⟨⟨t138, t139, t140⟩, A60, H⟩ := H
  replace H : (wigwaglaw16_PacerBounds.l0 k a0 a1 l2 l3 t137 0 0 0 t138 t139 t140) = some r := H
  have A6 := Aside0.mk A60
  clear A60
  have H' := Aside0.mk H
  clear H
  go_enter Try.func4, Try.ntmps4
  go_wp2_with (first | ((with_reducible refine gate_callee (f := 8) rfl ?_); refine goesL_ (some 16) rfl rfl Try.func8 (by kernel_rfl) rfl #[] rfl (by (try simp only [List.map_toArray, List.map_cons, List.map_nil]); first | done | rfl | (simp only [List.length_drop, List.length_take]; rfl)) ?_; (with_reducible refine (wigwaglaw16_awake.calls  t137 _ A5.out).mono ?_); rintro e w7 ⟨rfl, hb⟩; refine ⟨_, rfl, ?_⟩; have n0_ := Aside0.mk (below_step (by repeat (first | (with_reducible first | exact HB.out | apply below_alloc | apply pw_below_drewN | apply below_drew1) | exact HB.out)) hb); clear HB; have HB := n0_; clear n0_; (try clear hb); (try clear hb2); (try clear hk); (try clear hi)) | ((with_reducible refine gate_callee (f := 11) rfl ?_); refine goesL_ (some 19) rfl rfl Try.func11 (by kernel_rfl) rfl #[.int .u64 0, .int .u64 (IntKind.u64.wrap (a0))] rfl (by (try simp only [List.map_toArray, List.map_cons, List.map_nil]); first | done | rfl | (simp only [List.length_drop, List.length_take]; rfl)) ?_; (with_reducible refine (pacer_New.calls 0 (IntKind.u64.wrap (a0)) t138 t139 t140 _ A6.out).mono ?_); rintro e w8 ⟨rfl, hb⟩; refine ⟨_, rfl, ?_⟩; have n0_ := Aside0.mk (below_step (by repeat (first | (with_reducible first | exact HB.out | apply below_alloc | apply pw_below_drewN | apply below_drew1) | exact HB.out)) hb); clear HB; have HB := n0_; clear n0_; (try clear hb); (try clear hb2); (try clear hk); (try clear hi)) | ((with_reducible refine gate_dst (N := 10) rfl ?_); (try (refine gate_guard (by rfl) ?_; dsimp only)); refine box_event ?hg (N := 10) ?hd (cs := #[.int .u64 0, .int .u64 0, .int .u64 0]) (t := 24) ?hr ?_; (case hd => rfl); (case hg => rfl); (case hr => first | (go_simp; done) | (go_simp; rfl)); intro gb141 hg w9 hbox hb; have n0_ := Aside0.mk (below_step (by repeat (first | (with_reducible first | exact HB.out | apply below_alloc | apply pw_below_drewN | apply below_drew1) | exact HB.out)) hb); have n1_ := Aside0.mk (hbox); have n2_ := Aside0.mk ((by rw [hg]; exact (below_size (by repeat (first | (with_reducible first | exact HB.out | apply below_alloc | apply pw_below_drewN | apply below_drew1) | exact HB.out))) : w.heap.size ≤ gb141)); have n3_ := Aside0.mk ((by rw [hg]; exact (below_size (by repeat (first | (with_reducible first | exact HB.out | apply below_alloc | apply pw_below_drewN | apply below_drew1) | exact HB.out))) : w.heap.size ≤ gb141)); clear HB; have HB := n0_; have BK141 := n1_; have GW141 := n2_; have GE141 := n3_; clear n0_ n1_ n2_ n3_; clear hb hbox hg; have hcz10_0 : w9.cell? ⟨gb141, 0, none⟩ = some (.int .u64 0) := (blk_cell BK141.out 0).trans rfl; have hcz10_1 : w9.cell? ⟨gb141, 1, none⟩ = some (.int .u64 0) := (blk_cell BK141.out 1).trans rfl; have hcz10_2 : w9.cell? ⟨gb141, 2, none⟩ = some (.int .u64 0) := (blk_cell BK141.out 2).trans rfl; have hfz10_0 := blk_frozen BK141.out 0; have hfz10_1 := blk_frozen BK141.out 1; have hfz10_2 := blk_frozen BK141.out 2))
  go_loopg [11, 12, 13] k (fun kq v11 v12 v13 w' => ∃ (x11_1 : Int) (x12_1 : Int) (x13_1 : Int) (x142000_1 : Int) (x142001_1 : Int) (x142002_1 : Int), v11 = .int .u64 x11_1 ∧ v12 = .int .u64 x12_1 ∧ v13 = .int .i64 x13_1 ∧ Aside0 (wigwaglaw16_PacerBounds.l0 kq a0 a1 l2 l3 t137 x11_1 x12_1 x13_1 x142000_1 x142001_1 x142002_1 = some r) ∧ Aside0 (kq ≤ k) ∧ Aside0 (w'.heap[gb141]? = some (.cells #[.int .u64 x142000_1, .int .u64 x142001_1, .int .u64 x142002_1] 24 (0, 0))) ∧ Aside0 (Below w.heap.size w w'))
  case atStart => exact ⟨(0), (0), (0), (t138), (t139), (t140), (by first | rfl | (simp; done) | (simp [*]; done)), (by first | rfl | (simp; done) | (simp [*]; done)), (by first | rfl | (simp; done) | (simp [*]; done)), H', ⟨Nat.le_refl _⟩, ⟨by (with_reducible repeat (first | refine blk_drewN ?_ _ | refine blk_drew ?_ | refine blk_alloc ?_ _)); refine blk_put (cs := #[.int .u64 t138, .int .u64 t139, .int .u64 0]) ?_ 2 _ rfl; (with_reducible repeat (first | refine blk_drewN ?_ _ | refine blk_drew ?_ | refine blk_alloc ?_ _)); refine blk_put (cs := #[.int .u64 t138, .int .u64 0, .int .u64 0]) ?_ 1 _ rfl; (with_reducible repeat (first | refine blk_drewN ?_ _ | refine blk_drew ?_ | refine blk_alloc ?_ _)); refine blk_put (cs := #[.int .u64 0, .int .u64 0, .int .u64 0]) ?_ 0 _ rfl; (with_reducible repeat (first | refine blk_drewN ?_ _ | refine blk_drew ?_ | refine blk_alloc ?_ _)); exact BK141.out⟩, ⟨by repeat (first | (with_reducible first | exact HB.out | apply below_alloc | apply pw_below_drewN | apply below_drew1 | refine below_set ?_ GE141.out) | exact HB.out)⟩⟩
  case round =>
    clear H'
    try clear c1
    try clear c2
    try clear p2
    try clear c3
    try clear c4
    try clear c8
    try clear hcz10_0
    try clear hcz10_1
    try clear hcz10_2
    try clear hfz10_0
    try clear hfz10_1
    try clear hfz10_2
    obtain ⟨x11_1, x12_1, x13_1, x142000_1, x142001_1, x142002_1, rfl, rfl, rfl, HA, HK1, BK141, HB⟩ := hrel
    cases gk with
    | zero => exact absurd HA.out (by simp [wigwaglaw16_PacerBounds.l0])
    | succ k1 =>
      have H := HA.out
      clear HA
      simp only [wigwaglaw16_PacerBounds.l0] at H
      have HC11 := Aside0.mk H
      clear H
      go_upto_region 6 with (fail)
      go_cut [33] (fun v33 wc => ∃ (kq : Nat) (x33_10 : Bool), v33 = .bool x33_10 ∧ Aside0 (wigwaglaw16_PacerBounds.j1 kq a0 a1 l2 l3 t137 x11_1 x12_1 x13_1 x33_10 x142000_1 x142001_1 x142002_1 = some r) ∧ Aside0 (kq ≤ k1) ∧ Aside0 (wc.heap[gb141]? = some (.cells #[.int .u64 x142000_1, .int .u64 x142001_1, .int .u64 x142002_1] 24 (0, 0))) ∧ Aside0 (Below w.heap.size w wc))
      case first =>
        have H := HC11.out
        clear HC11
        by_cases c12 : x13_1 < (l2.length : Int)
        · rw [if_pos c12] at H
          have c12b0 : decide (x13_1 < (l2.length : Int)) = true := decide_eq_true c12
          clear c12
          (first | rw [c12b0] | (simp only [i64_w, i32_w]; rw [c12b0]) | skip)
          by_cases c13 : x13_1 < (l3.length : Int)
          · rw [if_pos c13] at H
            have c13b0 : decide (x13_1 < (l3.length : Int)) = true := decide_eq_true c13
            clear c13
            have H' := Aside0.mk H
            clear H
            go_wp2
            go_meet
            case rel => exact ⟨_, (decide (x13_1 < 100)), (by first | rfl | (simp; done) | (simp [*]; done)), H', ⟨by have := HK1.out; first | omega | exact Nat.le_refl _⟩, ⟨by (with_reducible repeat (first | refine blk_drewN ?_ _ | refine blk_drew ?_ | refine blk_alloc ?_ _)); exact BK141.out⟩, ⟨by repeat (first | (with_reducible first | exact HB.out | apply below_alloc | apply pw_below_drewN | apply below_drew1 | refine below_set ?_ GE141.out) | exact HB.out)⟩⟩
          · rw [if_neg c13] at H
            have c13b0 : decide (x13_1 < (l3.length : Int)) = false := decide_eq_false c13
            clear c13
            have H' := Aside0.mk H
            clear H
            go_wp2
            go_meet
            case rel => exact ⟨_, (false), (by first | rfl | (simp; done) | (simp [*]; done)), H', ⟨by have := HK1.out; first | omega | exact Nat.le_refl _⟩, ⟨by (with_reducible repeat (first | refine blk_drewN ?_ _ | refine blk_drew ?_ | refine blk_alloc ?_ _)); exact BK141.out⟩, ⟨by repeat (first | (with_reducible first | exact HB.out | apply below_alloc | apply pw_below_drewN | apply below_drew1 | refine below_set ?_ GE141.out) | exact HB.out)⟩⟩
        · rw [if_neg c12] at H
          have c12b0 : decide (x13_1 < (l2.length : Int)) = false := decide_eq_false c12
          clear c12
          (first | rw [c12b0] | (simp only [i64_w, i32_w]; rw [c12b0]) | skip)
          have H' := Aside0.mk H
          clear H
          go_wp2
          go_meet
          case rel => exact ⟨_, (false), (by first | rfl | (simp; done) | (simp [*]; done)), H', ⟨by have := HK1.out; first | omega | exact Nat.le_refl _⟩, ⟨by (with_reducible repeat (first | refine blk_drewN ?_ _ | refine blk_drew ?_ | refine blk_alloc ?_ _)); exact BK141.out⟩, ⟨by repeat (first | (with_reducible first | exact HB.out | apply below_alloc | apply pw_below_drewN | apply below_drew1 | refine below_set ?_ GE141.out) | exact HB.out)⟩⟩
      case rest =>
        clear HC11
        try clear c1
        try clear c2
        try clear p2
        try clear c3
        try clear c4
        try clear c8
        try clear c11
        try clear c12
        try clear c12b0
        try clear c13
        try clear c13b0
        try clear hcz10_0
        try clear hcz10_1
        try clear hcz10_2
        try clear hfz10_0
        try clear hfz10_1
        try clear hfz10_2
        try clear p2
        obtain ⟨kq, x33_10, rfl, HA, HJ10, BK141, HB⟩ := hcut
        cases kq with
        | zero => exact absurd HA.out (by simp [wigwaglaw16_PacerBounds.j1])
        | succ kj10 =>
          have H := HA.out
          clear HA
          simp only [wigwaglaw16_PacerBounds.j1] at H
          by_cases c14 : x33_10 = true
          · subst c14
            have H1 : (if 0 ≤ x13_1 then (if x13_1 < (l2.length : Int) then ((pacer_Fill.f x142000_1 x142001_1 x142002_1 (IntKind.u64.wrap (x11_1 + (IntKind.u64.wrap (rd l2 x13_1)))) (IntKind.u64.wrap (a1)) (IntKind.u64.wrap (a0))).bind fun bt143 => (if x13_1 < (l3.length : Int) then ((pacer_Take.f bt143.1 bt143.2.1 bt143.2.2 (IntKind.u64.wrap (rd l3 x13_1))).bind fun bt147 => (if bt147.2.2.2 = true then (if (IntKind.u64.wrap (x12_1 + (IntKind.u64.wrap (rd l3 x13_1)))) > (IntKind.u64.wrap ((IntKind.u64.wrap (a0)) + (IntKind.u64.wrap (Int.tdiv (IntKind.u64.wrap ((IntKind.u64.wrap (a1)) * (IntKind.u64.wrap (x11_1 + (IntKind.u64.wrap (rd l2 x13_1)))))) 1000)))) then (some false) else (if bt147.2.1 > (IntKind.u64.wrap (a0)) then (some false) else (if bt147.2.2.1 > 999 then (some false) else (wigwaglaw16_PacerBounds.l0 kj10 a0 a1 l2 l3 t137 (IntKind.u64.wrap (x11_1 + (IntKind.u64.wrap (rd l2 x13_1)))) (IntKind.u64.wrap (x12_1 + (IntKind.u64.wrap (rd l3 x13_1)))) (wrap64 (x13_1 + 1)) bt147.1 bt147.2.1 bt147.2.2.1)))) else (if x12_1 > (IntKind.u64.wrap ((IntKind.u64.wrap (a0)) + (IntKind.u64.wrap (Int.tdiv (IntKind.u64.wrap ((IntKind.u64.wrap (a1)) * (IntKind.u64.wrap (x11_1 + (IntKind.u64.wrap (rd l2 x13_1)))))) 1000)))) then (some false) else (if bt147.2.1 > (IntKind.u64.wrap (a0)) then (some false) else (if bt147.2.2.1 > 999 then (some false) else (wigwaglaw16_PacerBounds.l0 kj10 a0 a1 l2 l3 t137 (IntKind.u64.wrap (x11_1 + (IntKind.u64.wrap (rd l2 x13_1)))) x12_1 (wrap64 (x13_1 + 1)) bt147.1 bt147.2.1 bt147.2.2.1)))))) else (none))) else (none)) else (none)) = some r := by rw [if_pos rfl] at H; exact H
            clear H
            have H := H1
            clear H1
            by_cases c15 : 0 ≤ x13_1
            · rw [if_pos c15] at H
              have c15b0 : decide (0 ≤ x13_1) = true := decide_eq_true c15
              clear c15
              by_cases c16 : x13_1 < (l2.length : Int)
              · rw [if_pos c16] at H
                have c16b0 : decide (x13_1 < (l2.length : Int)) = true := decide_eq_true c16
                clear c16
                replace H := Option.bind_eq_some_iff.mp H
                obtain ⟨⟨t143, t144, t145⟩, A170, H⟩ := H
                replace H : (if x13_1 < (l3.length : Int) then ((pacer_Take.f t143 t144 t145 (IntKind.u64.wrap (rd l3 x13_1))).bind fun bt147 => (if bt147.2.2.2 = true then (if (IntKind.u64.wrap (x12_1 + (IntKind.u64.wrap (rd l3 x13_1)))) > (IntKind.u64.wrap ((IntKind.u64.wrap (a0)) + (IntKind.u64.wrap (Int.tdiv (IntKind.u64.wrap ((IntKind.u64.wrap (a1)) * (IntKind.u64.wrap (x11_1 + (IntKind.u64.wrap (rd l2 x13_1)))))) 1000)))) then (some false) else (if bt147.2.1 > (IntKind.u64.wrap (a0)) then (some false) else (if bt147.2.2.1 > 999 then (some false) else (wigwaglaw16_PacerBounds.l0 kj10 a0 a1 l2 l3 t137 (IntKind.u64.wrap (x11_1 + (IntKind.u64.wrap (rd l2 x13_1)))) (IntKind.u64.wrap (x12_1 + (IntKind.u64.wrap (rd l3 x13_1)))) (wrap64 (x13_1 + 1)) bt147.1 bt147.2.1 bt147.2.2.1)))) else (if x12_1 > (IntKind.u64.wrap ((IntKind.u64.wrap (a0)) + (IntKind.u64.wrap (Int.tdiv (IntKind.u64.wrap ((IntKind.u64.wrap (a1)) * (IntKind.u64.wrap (x11_1 + (IntKind.u64.wrap (rd l2 x13_1)))))) 1000)))) then (some false) else (if bt147.2.1 > (IntKind.u64.wrap (a0)) then (some false) else (if bt147.2.2.1 > 999 then (some false) else (wigwaglaw16_PacerBounds.l0 kj10 a0 a1 l2 l3 t137 (IntKind.u64.wrap (x11_1 + (IntKind.u64.wrap (rd l2 x13_1)))) x12_1 (wrap64 (x13_1 + 1)) bt147.1 bt147.2.1 bt147.2.2.1)))))) else (none)) = some r := H
                have A17 := Aside0.mk A170
                clear A170
                by_cases c18 : x13_1 < (l3.length : Int)
                · rw [if_pos c18] at H
                  have c18b0 : decide (x13_1 < (l3.length : Int)) = true := decide_eq_true c18
                  clear c18
                  replace H := Option.bind_eq_some_iff.mp H
                  obtain ⟨⟨t147, t148, t149, t150⟩, A190, H⟩ := H
                  replace H : (if t150 = true then (if (IntKind.u64.wrap (x12_1 + (IntKind.u64.wrap (rd l3 x13_1)))) > (IntKind.u64.wrap ((IntKind.u64.wrap (a0)) + (IntKind.u64.wrap (Int.tdiv (IntKind.u64.wrap ((IntKind.u64.wrap (a1)) * (IntKind.u64.wrap (x11_1 + (IntKind.u64.wrap (rd l2 x13_1)))))) 1000)))) then (some false) else (if t148 > (IntKind.u64.wrap (a0)) then (some false) else (if t149 > 999 then (some false) else (wigwaglaw16_PacerBounds.l0 kj10 a0 a1 l2 l3 t137 (IntKind.u64.wrap (x11_1 + (IntKind.u64.wrap (rd l2 x13_1)))) (IntKind.u64.wrap (x12_1 + (IntKind.u64.wrap (rd l3 x13_1)))) (wrap64 (x13_1 + 1)) t147 t148 t149)))) else (if x12_1 > (IntKind.u64.wrap ((IntKind.u64.wrap (a0)) + (IntKind.u64.wrap (Int.tdiv (IntKind.u64.wrap ((IntKind.u64.wrap (a1)) * (IntKind.u64.wrap (x11_1 + (IntKind.u64.wrap (rd l2 x13_1)))))) 1000)))) then (some false) else (if t148 > (IntKind.u64.wrap (a0)) then (some false) else (if t149 > 999 then (some false) else (wigwaglaw16_PacerBounds.l0 kj10 a0 a1 l2 l3 t137 (IntKind.u64.wrap (x11_1 + (IntKind.u64.wrap (rd l2 x13_1)))) x12_1 (wrap64 (x13_1 + 1)) t147 t148 t149))))) = some r := H
                  have A19 := Aside0.mk A190
                  clear A190
                  by_cases c20 : t150 = true
                  · subst c20
                    have H1 : (if (IntKind.u64.wrap (x12_1 + (IntKind.u64.wrap (rd l3 x13_1)))) > (IntKind.u64.wrap ((IntKind.u64.wrap (a0)) + (IntKind.u64.wrap (Int.tdiv (IntKind.u64.wrap ((IntKind.u64.wrap (a1)) * (IntKind.u64.wrap (x11_1 + (IntKind.u64.wrap (rd l2 x13_1)))))) 1000)))) then (some false) else (if t148 > (IntKind.u64.wrap (a0)) then (some false) else (if t149 > 999 then (some false) else (wigwaglaw16_PacerBounds.l0 kj10 a0 a1 l2 l3 t137 (IntKind.u64.wrap (x11_1 + (IntKind.u64.wrap (rd l2 x13_1)))) (IntKind.u64.wrap (x12_1 + (IntKind.u64.wrap (rd l3 x13_1)))) (wrap64 (x13_1 + 1)) t147 t148 t149)))) = some r := by rw [if_pos rfl] at H; exact H
                    clear H
                    have H := H1
                    clear H1
                    have HS21 := Aside0.mk H
                    clear H
                    have p142 : 0 ≤ (x13_1 : Int) := of_decide_eq_true (by first | (with_reducible assumption) | assumption)
                    have q142 : x13_1 < (l2.length : Int) := of_decide_eq_true (by first | (with_reducible assumption) | assumption)
                    obtain ⟨ad142, e142, hx142_0⟩ := Kd.at_int HR2.out x13_1 p142 q142
                    cases e142
                    replace hx142_0 := (HB.out.cell (World.block_lt_of_cell? w _ hx142_0)).trans hx142_0
                    replace p142 := eq_true p142
                    replace q142 := eq_true q142
                    have hcz22_0 : wc.cell? ⟨gb141, 0, none⟩ = some (.int .u64 x142000_1) := (blk_cell BK141.out 0).trans rfl
                    have hcz22_1 : wc.cell? ⟨gb141, 1, none⟩ = some (.int .u64 x142001_1) := (blk_cell BK141.out 1).trans rfl
                    have hcz22_2 : wc.cell? ⟨gb141, 2, none⟩ = some (.int .u64 x142002_1) := (blk_cell BK141.out 2).trans rfl
                    have hfz22_0 := blk_frozen BK141.out 0
                    have hfz22_1 := blk_frozen BK141.out 1
                    have hfz22_2 := blk_frozen BK141.out 2
                    try go_wp2_with (first | ((with_reducible refine gate_callee (f := 13) rfl ?_); refine goesL_ (some 49) rfl rfl Try.func13 (by kernel_rfl) rfl #[.agg #[.int .u64 x142000_1, .int .u64 x142001_1, .int .u64 x142002_1], .int .u64 (IntKind.u64.wrap (x11_1 + (IntKind.u64.wrap (rd l2 x13_1)))), .int .u64 (IntKind.u64.wrap (a1)), .int .u64 (IntKind.u64.wrap (a0))] rfl (by (try simp only [List.map_toArray, List.map_cons, List.map_nil]); first | done | rfl | (simp only [List.length_drop, List.length_take]; rfl)) ?_; (with_reducible refine (pacer_Fill.calls x142000_1 x142001_1 x142002_1 (IntKind.u64.wrap (x11_1 + (IntKind.u64.wrap (rd l2 x13_1)))) (IntKind.u64.wrap (a1)) (IntKind.u64.wrap (a0)) t143 t144 t145 _ A17.out).mono ?_); rintro e w23 ⟨rfl, hb⟩; refine ⟨_, rfl, ?_⟩; have n0_ := Aside0.mk (blk_below (g := gb141) (o := .cells #[.int .u64 x142000_1, .int .u64 x142001_1, .int .u64 x142002_1] 24 (0, 0)) (by (with_reducible repeat (first | refine blk_drewN ?_ _ | refine blk_drew ?_ | refine blk_alloc ?_ _)); exact BK141.out) hb); have n1_ := Aside0.mk (below_step (by repeat (first | (with_reducible first | exact HB.out | apply below_alloc | apply pw_below_drewN | apply below_drew1 | refine below_set ?_ GE141.out) | exact HB.out)) hb); clear BK141; clear HB; have BK141 := n0_; have HB := n1_; clear n0_ n1_; (try clear hb); (try clear hb2); (try clear hk); (try clear hi); have hcz24_0 : w23.cell? ⟨gb141, 0, none⟩ = some (.int .u64 x142000_1) := (blk_cell BK141.out 0).trans rfl; have hcz24_1 : w23.cell? ⟨gb141, 1, none⟩ = some (.int .u64 x142001_1) := (blk_cell BK141.out 1).trans rfl; have hcz24_2 : w23.cell? ⟨gb141, 2, none⟩ = some (.int .u64 x142002_1) := (blk_cell BK141.out 2).trans rfl; have hfz24_0 := blk_frozen BK141.out 0; have hfz24_1 := blk_frozen BK141.out 1; have hfz24_2 := blk_frozen BK141.out 2))
                    have n0_ : Aside0 ((((w23.setCell ⟨gb141, 0, none⟩ (.int .u64 t143)).setCell ⟨gb141, 1, none⟩ (.int .u64 t144)).setCell ⟨gb141, 2, none⟩ (.int .u64 t145)).heap[gb141]? = some (.cells #[.int .u64 t143, .int .u64 t144, .int .u64 t145] 24 (0, 0))) := ⟨by (with_reducible repeat (first | refine blk_drewN ?_ _ | refine blk_drew ?_ | refine blk_alloc ?_ _)); refine blk_put (cs := #[.int .u64 t143, .int .u64 t144, .int .u64 x142002_1]) ?_ 2 _ rfl; (with_reducible repeat (first | refine blk_drewN ?_ _ | refine blk_drew ?_ | refine blk_alloc ?_ _)); refine blk_put (cs := #[.int .u64 t143, .int .u64 x142001_1, .int .u64 x142002_1]) ?_ 1 _ rfl; (with_reducible repeat (first | refine blk_drewN ?_ _ | refine blk_drew ?_ | refine blk_alloc ?_ _)); refine blk_put (cs := #[.int .u64 x142000_1, .int .u64 x142001_1, .int .u64 x142002_1]) ?_ 0 _ rfl; (with_reducible repeat (first | refine blk_drewN ?_ _ | refine blk_drew ?_ | refine blk_alloc ?_ _)); exact BK141.out⟩
                    have n1_ : Aside0 (Below w.heap.size w (((w23.setCell ⟨gb141, 0, none⟩ (.int .u64 t143)).setCell ⟨gb141, 1, none⟩ (.int .u64 t144)).setCell ⟨gb141, 2, none⟩ (.int .u64 t145))) := ⟨by repeat (first | (with_reducible first | exact HB.out | apply below_alloc | apply pw_below_drewN | apply below_drew1 | refine below_set ?_ GE141.out) | exact HB.out)⟩
                    (try clear BK141)
                    (try clear HB)
                    generalize (((w23.setCell ⟨gb141, 0, none⟩ (.int .u64 t143)).setCell ⟨gb141, 1, none⟩ (.int .u64 t144)).setCell ⟨gb141, 2, none⟩ (.int .u64 t145)) = w25 at n0_ n1_ ⊢
                    have BK141 := n0_
                    have HB := n1_
                    clear n0_ n1_
                    have n0_ := Aside0.mk (blk_drew BK141.out)
                    have n1_ := Aside0.mk (below_drew1 HB.out)
                    clear BK141
                    clear HB
                    have BK141 := n0_
                    have HB := n1_
                    clear n0_ n1_
                    have p146 : 0 ≤ (x13_1 : Int) := of_decide_eq_true (by first | (with_reducible assumption) | assumption)
                    have q146 : x13_1 < (l3.length : Int) := of_decide_eq_true (by first | (with_reducible assumption) | assumption)
                    obtain ⟨ad146, e146, hx146_0⟩ := Kd.at_int HR3.out x13_1 p146 q146
                    have hw146_0 := hx146_0
                    cases e146
                    replace hx146_0 := (HB.out.cell (World.block_lt_of_cell? w _ hx146_0)).trans hx146_0
                    replace p146 := eq_true p146
                    replace q146 := eq_true q146
                    refine start_ (n := 13) (S := fun w' => w'.cell? ⟨gb141, 0, none⟩ = some (.int .u64 t143) ∧ w'.cell? ⟨gb141, 1, none⟩ = some (.int .u64 t144) ∧ w'.cell? ⟨gb141, 2, none⟩ = some (.int .u64 t145) ∧ w'.cell? (ad146.add (x13_1).toNat) = some (.int .u16 (rd l3 x13_1))) (ds := []) #[false, false, false, false, false, false, false, false, false, false, false, false, false] (by kernel_rfl) rfl rfl ⟨(blk_cell BK141.out 0).trans rfl, (blk_cell BK141.out 1).trans rfl, (blk_cell BK141.out 2).trans rfl, ((HB.out.cell (World.block_lt_of_cell? w _ hw146_0)).trans hw146_0)⟩ (fun hHeld => ?_); refine with_tabW wigwaglaw16_PacerBounds.tab10 wigwaglaw16_PacerBounds.bits10 (fun HT_ HW_ => ?_)
                    generalize w25.drew = w26 at BK141 HB hx146_0 hHeld ⊢
                    refine pure_ (i := 1) (N := some 52) (v := ?_) (a' := ?_) #[false, true, false, false, false, false, false, false, false, false, false, false, false] rfl rfl (any_of HT_.out (by kernel_rfl)) (fun _ _ _ h => h) (Or.inl ⟨by rfl, ?_⟩) ?_ ?_
                    rotate_left
                    · intro w'
                      go_simp
                      with_reducible rfl
                    rotate_left
                    · simp only [Act.put, List.setIfInBounds_toArray, List.set_cons_zero, List.set_cons_succ, i64_w, i32_w]
                      rfl
                    refine pure_ (i := 2) (N := some 53) (v := ?_) (a' := ?_) #[false, true, true, false, false, false, false, false, false, false, false, false, false] rfl rfl (any_of HT_.out (by kernel_rfl)) (fun _ _ _ h => h) (Or.inl ⟨by rfl, ?_⟩) ?_ ?_
                    rotate_left
                    · intro w'
                      go_simp
                      with_reducible rfl
                    rotate_left
                    · simp only [Act.put, List.setIfInBounds_toArray, List.set_cons_zero, List.set_cons_succ, i64_w, i32_w]
                      rfl
                    refine pure_ (i := 3) (N := some 54) (v := ?_) (a' := ?_) #[false, true, true, true, false, false, false, false, false, false, false, false, false] rfl rfl (any_of HT_.out (by kernel_rfl)) (fun _ _ _ h => h) (Or.inl ⟨by rfl, ?_⟩) ?_ ?_
                    rotate_left
                    · intro w'
                      go_simp
                      with_reducible rfl
                    rotate_left
                    · simp only [Act.put, List.setIfInBounds_toArray, List.set_cons_zero, List.set_cons_succ, i64_w, i32_w]
                      rfl
                    refine take_ (i := 0) (N := some 51) (v := ?_) (a' := ?_) #[true, true, true, true, false, false, false, false, false, false, false, false, false] rfl rfl (take_ofW HT_.out HW_.out (by kernel_rfl)) (fun _ _ _ h => h) (Or.inl ⟨by rfl, ?_⟩) hHeld ?_ ?_
                    rotate_left
                    · rintro w' ⟨s0, s1, s2, s3⟩
                      go_simp
                      with_reducible rfl
                    rotate_left
                    · simp only [Act.put, List.setIfInBounds_toArray, List.set_cons_zero, List.set_cons_succ, i64_w, i32_w]
                      rfl
                    refine take_ (i := 4) (N := some 55) (v := ?_) (a' := ?_) #[true, true, true, true, true, false, false, false, false, false, false, false, false] rfl rfl (take_ofW HT_.out HW_.out (by kernel_rfl)) (fun _ _ _ h => h) (Or.inl ⟨by rfl, ?_⟩) hHeld ?_ ?_
                    rotate_left
                    · rintro w' ⟨s0, s1, s2, s3⟩
                      go_simp
                      with_reducible rfl
                    rotate_left
                    · simp only [Act.put, List.setIfInBounds_toArray, List.set_cons_zero, List.set_cons_succ, i64_w, i32_w]
                      rfl
                    refine pure_ (i := 5) (N := some 56) (v := ?_) (a' := ?_) #[true, true, true, true, true, true, false, false, false, false, false, false, false] rfl rfl (any_of HT_.out (by kernel_rfl)) (fun _ _ _ h => h) (Or.inl ⟨by rfl, ?_⟩) ?_ ?_
                    rotate_left
                    · intro w'
                      go_simp
                      with_reducible rfl
                    rotate_left
                    · simp only [Act.put, List.setIfInBounds_toArray, List.set_cons_zero, List.set_cons_succ, i64_w, i32_w]
                      rfl
                    refine join_ (σ := Nat) 2 #[true, true, true, true, true, true, true, true, true, true, true, false, false] (fun s_ => [(57, .tuple #[.agg #[.int .u64 t147, .int .u64 t148, .int .u64 t149], .bool true]), (14, .pointer (some ⟨s_, 0, none⟩)), (50, .tuple #[.agg #[.int .u64 t147, .int .u64 t148, .int .u64 t149], .bool true]), (58, .agg #[.int .u64 t147, .int .u64 t148, .int .u64 t149]), (59, .bool true)]) (fun s_ w' => (w'.cell? ⟨gb141, 0, none⟩ = some (.int .u64 t143) ∧ w'.cell? ⟨gb141, 1, none⟩ = some (.int .u64 t144) ∧ w'.cell? ⟨gb141, 2, none⟩ = some (.int .u64 t145) ∧ w'.cell? (ad146.add (x13_1).toNat) = some (.int .u16 (rd l3 x13_1))) ∧ (w'.heap[gb141]? = some (.cells #[.int .u64 t143, .int .u64 t144, .int .u64 t145] 24 (0, 0))) ∧ (w'.heap[s_]? = some (.cells #[.int .u64 0, .int .u64 0, .int .u64 0] 24 (0, 0))) ∧ (w.heap.size ≤ s_) ∧ (w.heap.size ≤ s_) ∧ (gb141 ≠ s_) ∧ (s_ ≠ gb141) ∧ (Below w.heap.size w w')) ?_ ?_
                    rotate_left
                    · intro hCont
                      refine two_ (i := 6) (j := 10) (Ni := some 57) (Nj := some 14) #[true, true, true, true, true, true, true, false, false, false, false, false, false] #[true, true, true, true, true, true, false, false, false, false, true, false, false] rfl rfl rfl rfl (two_of HT_.out (by kernel_rfl)) (by decide) (by decide) (fun K hK => ?_) (fun K hK => ?_)
                      · skip
                        refine goes_ Try.func9 (by kernel_rfl) rfl #[.agg #[.int .u64 t143, .int .u64 t144, .int .u64 t145], .int .u64 (IntKind.u64.wrap (rd l3 x13_1))] (by rfl) rfl rfl (by (try simp only [List.map_toArray, List.map_cons, List.map_nil]); first | done | rfl | (simp only [List.length_drop, List.length_take]; rfl)) ?_
                        with_reducible refine (pacer_Take.calls t143 t144 t145 (IntKind.u64.wrap (rd l3 x13_1)) t147 t148 t149 true _ A19.out).mono ?_
                        rintro e w27 ⟨rfl, hb⟩
                        refine ⟨_, rfl, ?_⟩
                        have n0_ := Aside0.mk (blk_below (g := gb141) (o := .cells #[.int .u64 t143, .int .u64 t144, .int .u64 t145] 24 (0, 0)) (by (with_reducible repeat (first | refine blk_drewN ?_ _ | refine blk_drew ?_ | refine blk_alloc ?_ _)); exact BK141.out) hb)
                        have n1_ := Aside0.mk (below_step (by repeat (first | (with_reducible first | exact HB.out | apply below_alloc | apply pw_below_drewN | apply below_drew1 | refine below_set ?_ GE141.out) | exact HB.out)) hb)
                        clear BK141
                        clear HB
                        have BK141 := n0_
                        have HB := n1_
                        clear n0_ n1_
                        (try clear hb)
                        (try clear hb2)
                        (try clear hk)
                        (try clear hi)
                        refine hK.out _ _ ⟨(blk_cell BK141.out 0).trans rfl, (blk_cell BK141.out 1).trans rfl, (blk_cell BK141.out 2).trans rfl, ((HB.out.cell (World.block_lt_of_cell? w _ hw146_0)).trans hw146_0)⟩ (fun hHeld => ?_)
                        clear hK K
                        refine norm_ (a' := ?_) ?_ ?_
                        rotate_left
                        · show Act.put _ (some 57) _ = _
                          simp only [Act.put, List.setIfInBounds_toArray, List.set_cons_zero, List.set_cons_succ, i64_w, i32_w]
                          rfl
                        refine pure_ (i := 7) (N := some 50) (v := ?_) (a' := ?_) #[true, true, true, true, true, true, true, true, false, false, false, false, false] rfl rfl (any_of HT_.out (by kernel_rfl)) (fun _ _ _ h => h) (Or.inl ⟨by rfl, ?_⟩) ?_ ?_
                        rotate_left
                        · intro w'
                          go_simp
                          with_reducible rfl
                        rotate_left
                        · simp only [Act.put, List.setIfInBounds_toArray, List.set_cons_zero, List.set_cons_succ, i64_w, i32_w]
                          rfl
                        refine pure_ (i := 8) (N := some 58) (v := ?_) (a' := ?_) #[true, true, true, true, true, true, true, true, true, false, false, false, false] rfl rfl (any_of HT_.out (by kernel_rfl)) (fun _ _ _ h => h) (Or.inl ⟨by rfl, ?_⟩) ?_ ?_
                        rotate_left
                        · intro w'
                          go_simp
                          with_reducible rfl
                        rotate_left
                        · simp only [Act.put, List.setIfInBounds_toArray, List.set_cons_zero, List.set_cons_succ, i64_w, i32_w]
                          rfl
                        refine pure_ (i := 9) (N := some 59) (v := ?_) (a' := ?_) #[true, true, true, true, true, true, true, true, true, true, false, false, false] rfl rfl (any_of HT_.out (by kernel_rfl)) (fun _ _ _ h => h) (Or.inl ⟨by rfl, ?_⟩) ?_ ?_
                        rotate_left
                        · intro w'
                          go_simp
                          with_reducible rfl
                        rotate_left
                        · simp only [Act.put, List.setIfInBounds_toArray, List.set_cons_zero, List.set_cons_succ, i64_w, i32_w]
                          rfl
                        refine one_ (i := 10) (N := some 14) #[true, true, true, true, true, true, true, true, true, true, true, false, false] rfl rfl (one_of HT_.out (by kernel_rfl)) (by decide) (fun K hK => ?_)
                        refine box_step ?hg (N := 14) ?hd (cs := #[.int .u64 0, .int .u64 0, .int .u64 0]) (t := 24) ?hr ?_; (case hd => rfl); (case hg => rfl); (case hr => first | (go_simp; done) | (go_simp; rfl))
                        intro gb151 hg w28 hbox hb
                        have n0_ := Aside0.mk (blk_below (g := gb141) (o := .cells #[.int .u64 t143, .int .u64 t144, .int .u64 t145] 24 (0, 0)) (by (with_reducible repeat (first | refine blk_drewN ?_ _ | refine blk_drew ?_ | refine blk_alloc ?_ _)); exact BK141.out) hb)
                        have n1_ := Aside0.mk (below_step (by repeat (first | (with_reducible first | exact HB.out | apply below_alloc | apply pw_below_drewN | apply below_drew1 | refine below_set ?_ GE141.out) | exact HB.out)) hb)
                        have n2_ := Aside0.mk (hbox)
                        have n3_ := Aside0.mk ((by rw [hg]; exact (below_size (by repeat (first | (with_reducible first | exact HB.out | apply below_alloc | apply pw_below_drewN | apply below_drew1 | refine below_set ?_ GE141.out) | exact HB.out))) : w.heap.size ≤ gb151))
                        have n4_ := Aside0.mk ((by rw [hg]; exact (below_size (by repeat (first | (with_reducible first | exact HB.out | apply below_alloc | apply pw_below_drewN | apply below_drew1 | refine below_set ?_ GE141.out) | exact HB.out))) : w.heap.size ≤ gb151))
                        have n5_ := Aside0.mk ((by rw [hg]; exact Nat.ne_of_lt (blk_lt (g := gb141) (o := .cells #[.int .u64 t143, .int .u64 t144, .int .u64 t145] 24 (0, 0)) (by (with_reducible repeat (first | refine blk_drewN ?_ _ | refine blk_drew ?_ | refine blk_alloc ?_ _)); exact BK141.out)) : gb141 ≠ gb151))
                        have n6_ := Aside0.mk ((by rw [hg]; exact Nat.ne_of_gt (blk_lt (g := gb141) (o := .cells #[.int .u64 t143, .int .u64 t144, .int .u64 t145] 24 (0, 0)) (by (with_reducible repeat (first | refine blk_drewN ?_ _ | refine blk_drew ?_ | refine blk_alloc ?_ _)); exact BK141.out)) : gb151 ≠ gb141))
                        clear BK141
                        clear HB
                        have BK141 := n0_
                        have HB := n1_
                        have BK151 := n2_
                        have GW151 := n3_
                        have GE151 := n4_
                        have NB141_151 := n5_
                        have NB151_141 := n6_
                        clear n0_ n1_ n2_ n3_ n4_ n5_ n6_
                        clear hb hbox hg
                        refine hK.out _ _ ⟨(blk_cell BK141.out 0).trans rfl, (blk_cell BK141.out 1).trans rfl, (blk_cell BK141.out 2).trans rfl, ((HB.out.cell (World.block_lt_of_cell? w _ hw146_0)).trans hw146_0)⟩ (fun hHeld => ?_)
                        clear hK K
                        refine norm_ (a' := ?_) ?_ ?_
                        rotate_left
                        · show Act.put _ (some 14) _ = _
                          simp only [Act.put, List.setIfInBounds_toArray, List.set_cons_zero, List.set_cons_succ, i64_w, i32_w]
                          rfl
                        exact norm_ (by simp only [putAll, Act.put, List.setIfInBounds_toArray, List.set_cons_zero, List.set_cons_succ]) (hCont (gb151) _ ⟨hHeld, (by (with_reducible repeat (first | refine blk_drewN ?_ _ | refine blk_drew ?_ | refine blk_alloc ?_ _)); exact BK141.out), (by (with_reducible repeat (first | refine blk_drewN ?_ _ | refine blk_drew ?_ | refine blk_alloc ?_ _)); exact BK151.out), GW151.out, GE151.out, NB141_151.out, NB151_141.out, (by repeat (first | (with_reducible first | exact HB.out | apply below_alloc | apply pw_below_drewN | apply below_drew1 | refine below_set ?_ GE141.out | refine below_set ?_ GE151.out) | exact HB.out))⟩)
                      · skip
                        refine box_step ?hg (N := 14) ?hd (cs := #[.int .u64 0, .int .u64 0, .int .u64 0]) (t := 24) ?hr ?_; (case hd => rfl); (case hg => rfl); (case hr => first | (go_simp; done) | (go_simp; rfl))
                        intro gb151 hg w27 hbox hb
                        have n0_ := Aside0.mk (blk_below (g := gb141) (o := .cells #[.int .u64 t143, .int .u64 t144, .int .u64 t145] 24 (0, 0)) (by (with_reducible repeat (first | refine blk_drewN ?_ _ | refine blk_drew ?_ | refine blk_alloc ?_ _)); exact BK141.out) hb)
                        have n1_ := Aside0.mk (below_step (by repeat (first | (with_reducible first | exact HB.out | apply below_alloc | apply pw_below_drewN | apply below_drew1 | refine below_set ?_ GE141.out) | exact HB.out)) hb)
                        have n2_ := Aside0.mk (hbox)
                        have n3_ := Aside0.mk ((by rw [hg]; exact (below_size (by repeat (first | (with_reducible first | exact HB.out | apply below_alloc | apply pw_below_drewN | apply below_drew1 | refine below_set ?_ GE141.out) | exact HB.out))) : w.heap.size ≤ gb151))
                        have n4_ := Aside0.mk ((by rw [hg]; exact (below_size (by repeat (first | (with_reducible first | exact HB.out | apply below_alloc | apply pw_below_drewN | apply below_drew1 | refine below_set ?_ GE141.out) | exact HB.out))) : w.heap.size ≤ gb151))
                        have n5_ := Aside0.mk ((by rw [hg]; exact Nat.ne_of_lt (blk_lt (g := gb141) (o := .cells #[.int .u64 t143, .int .u64 t144, .int .u64 t145] 24 (0, 0)) (by (with_reducible repeat (first | refine blk_drewN ?_ _ | refine blk_drew ?_ | refine blk_alloc ?_ _)); exact BK141.out)) : gb141 ≠ gb151))
                        have n6_ := Aside0.mk ((by rw [hg]; exact Nat.ne_of_gt (blk_lt (g := gb141) (o := .cells #[.int .u64 t143, .int .u64 t144, .int .u64 t145] 24 (0, 0)) (by (with_reducible repeat (first | refine blk_drewN ?_ _ | refine blk_drew ?_ | refine blk_alloc ?_ _)); exact BK141.out)) : gb151 ≠ gb141))
                        clear BK141
                        clear HB
                        have BK141 := n0_
                        have HB := n1_
                        have BK151 := n2_
                        have GW151 := n3_
                        have GE151 := n4_
                        have NB141_151 := n5_
                        have NB151_141 := n6_
                        clear n0_ n1_ n2_ n3_ n4_ n5_ n6_
                        clear hb hbox hg
                        refine hK.out _ _ ⟨(blk_cell BK141.out 0).trans rfl, (blk_cell BK141.out 1).trans rfl, (blk_cell BK141.out 2).trans rfl, ((HB.out.cell (World.block_lt_of_cell? w _ hw146_0)).trans hw146_0)⟩ (fun hHeld => ?_)
                        clear hK K
                        refine norm_ (a' := ?_) ?_ ?_
                        rotate_left
                        · show Act.put _ (some 14) _ = _
                          simp only [Act.put, List.setIfInBounds_toArray, List.set_cons_zero, List.set_cons_succ, i64_w, i32_w]
                          rfl
                        refine one_ (i := 6) (N := some 57) #[true, true, true, true, true, true, true, false, false, false, true, false, false] rfl rfl (one_of HT_.out (by kernel_rfl)) (by decide) (fun K hK => ?_)
                        refine goes_ Try.func9 (by kernel_rfl) rfl #[.agg #[.int .u64 t143, .int .u64 t144, .int .u64 t145], .int .u64 (IntKind.u64.wrap (rd l3 x13_1))] (by rfl) rfl rfl (by (try simp only [List.map_toArray, List.map_cons, List.map_nil]); first | done | rfl | (simp only [List.length_drop, List.length_take]; rfl)) ?_
                        with_reducible refine (pacer_Take.calls t143 t144 t145 (IntKind.u64.wrap (rd l3 x13_1)) t147 t148 t149 true _ A19.out).mono ?_
                        rintro e w28 ⟨rfl, hb⟩
                        refine ⟨_, rfl, ?_⟩
                        have n0_ := Aside0.mk (blk_below (g := gb141) (o := .cells #[.int .u64 t143, .int .u64 t144, .int .u64 t145] 24 (0, 0)) (by (with_reducible repeat (first | refine blk_drewN ?_ _ | refine blk_drew ?_ | refine blk_alloc ?_ _)); exact BK141.out) hb)
                        have n1_ := Aside0.mk (blk_below (g := gb151) (o := .cells #[.int .u64 0, .int .u64 0, .int .u64 0] 24 (0, 0)) (by (with_reducible repeat (first | refine blk_drewN ?_ _ | refine blk_drew ?_ | refine blk_alloc ?_ _)); exact BK151.out) hb)
                        have n2_ := Aside0.mk (below_step (by repeat (first | (with_reducible first | exact HB.out | apply below_alloc | apply pw_below_drewN | apply below_drew1 | refine below_set ?_ GE141.out | refine below_set ?_ GE151.out) | exact HB.out)) hb)
                        clear BK141
                        clear BK151
                        clear HB
                        have BK141 := n0_
                        have BK151 := n1_
                        have HB := n2_
                        clear n0_ n1_ n2_
                        (try clear hb)
                        (try clear hb2)
                        (try clear hk)
                        (try clear hi)
                        refine hK.out _ _ ⟨(blk_cell BK141.out 0).trans rfl, (blk_cell BK141.out 1).trans rfl, (blk_cell BK141.out 2).trans rfl, ((HB.out.cell (World.block_lt_of_cell? w _ hw146_0)).trans hw146_0)⟩ (fun hHeld => ?_)
                        clear hK K
                        refine norm_ (a' := ?_) ?_ ?_
                        rotate_left
                        · show Act.put _ (some 57) _ = _
                          simp only [Act.put, List.setIfInBounds_toArray, List.set_cons_zero, List.set_cons_succ, i64_w, i32_w]
                          rfl
                        refine pure_ (i := 7) (N := some 50) (v := ?_) (a' := ?_) #[true, true, true, true, true, true, true, true, false, false, true, false, false] rfl rfl (any_of HT_.out (by kernel_rfl)) (fun _ _ _ h => h) (Or.inl ⟨by rfl, ?_⟩) ?_ ?_
                        rotate_left
                        · intro w'
                          go_simp
                          with_reducible rfl
                        rotate_left
                        · simp only [Act.put, List.setIfInBounds_toArray, List.set_cons_zero, List.set_cons_succ, i64_w, i32_w]
                          rfl
                        refine pure_ (i := 8) (N := some 58) (v := ?_) (a' := ?_) #[true, true, true, true, true, true, true, true, true, false, true, false, false] rfl rfl (any_of HT_.out (by kernel_rfl)) (fun _ _ _ h => h) (Or.inl ⟨by rfl, ?_⟩) ?_ ?_
                        rotate_left
                        · intro w'
                          go_simp
                          with_reducible rfl
                        rotate_left
                        · simp only [Act.put, List.setIfInBounds_toArray, List.set_cons_zero, List.set_cons_succ, i64_w, i32_w]
                          rfl
                        refine pure_ (i := 9) (N := some 59) (v := ?_) (a' := ?_) #[true, true, true, true, true, true, true, true, true, true, true, false, false] rfl rfl (any_of HT_.out (by kernel_rfl)) (fun _ _ _ h => h) (Or.inl ⟨by rfl, ?_⟩) ?_ ?_
                        rotate_left
                        · intro w'
                          go_simp
                          with_reducible rfl
                        rotate_left
                        · simp only [Act.put, List.setIfInBounds_toArray, List.set_cons_zero, List.set_cons_succ, i64_w, i32_w]
                          rfl
                        exact norm_ (by simp only [putAll, Act.put, List.setIfInBounds_toArray, List.set_cons_zero, List.set_cons_succ]) (hCont (gb151) _ ⟨hHeld, (by (with_reducible repeat (first | refine blk_drewN ?_ _ | refine blk_drew ?_ | refine blk_alloc ?_ _)); exact BK141.out), (by (with_reducible repeat (first | refine blk_drewN ?_ _ | refine blk_drew ?_ | refine blk_alloc ?_ _)); exact BK151.out), GW151.out, GE151.out, NB141_151.out, NB151_141.out, (by repeat (first | (with_reducible first | exact HB.out | apply below_alloc | apply pw_below_drewN | apply below_drew1 | refine below_set ?_ GE141.out | refine below_set ?_ GE151.out) | exact HB.out))⟩)
                    rintro gb151 w29 ⟨hS_, h0_, h1_, h2_, h3_, h4_, h5_, h6_⟩
                    have n0_ : Aside0 (w29.heap[gb141]? = some (.cells #[.int .u64 t143, .int .u64 t144, .int .u64 t145] 24 (0, 0))) := ⟨h0_⟩
                    have n1_ : Aside0 (w29.heap[gb151]? = some (.cells #[.int .u64 0, .int .u64 0, .int .u64 0] 24 (0, 0))) := ⟨h1_⟩
                    have n2_ : Aside0 (w.heap.size ≤ gb151) := ⟨h2_⟩
                    have n3_ : Aside0 (w.heap.size ≤ gb151) := ⟨h3_⟩
                    have n4_ : Aside0 (gb141 ≠ gb151) := ⟨h4_⟩
                    have n5_ : Aside0 (gb151 ≠ gb141) := ⟨h5_⟩
                    have n6_ : Aside0 (Below w.heap.size w w29) := ⟨h6_⟩
                    clear BK141
                    clear HB
                    clear h0_ h1_ h2_ h3_ h4_ h5_ h6_
                    have BK141 := n0_
                    have BK151 := n1_
                    have GW151 := n2_
                    have GE151 := n3_
                    have NB141_151 := n4_
                    have NB151_141 := n5_
                    have HB := n6_
                    clear n0_ n1_ n2_ n3_ n4_ n5_ n6_
                    have hHeld : w29.cell? ⟨gb141, 0, none⟩ = some (.int .u64 t143) ∧ w29.cell? ⟨gb141, 1, none⟩ = some (.int .u64 t144) ∧ w29.cell? ⟨gb141, 2, none⟩ = some (.int .u64 t145) ∧ w29.cell? (ad146.add (x13_1).toNat) = some (.int .u16 (rd l3 x13_1)) := hS_
                    refine norm_ (a' := ?_) ?_ ?_
                    rotate_left
                    · simp only [putAll, Act.put, List.setIfInBounds_toArray, List.set_cons_zero, List.set_cons_succ]
                      rfl
                    refine one_ (i := 11) (N := none) #[true, true, true, true, true, true, true, true, true, true, true, true, false] rfl rfl (one_of HT_.out (by kernel_rfl)) (by decide) (fun K hK => ?_)
                    have hs30 : w29.cell? ⟨gb151, 0, none⟩ = some (.int .u64 0) := (blk_cell BK151.out 0).trans rfl
                    have hfs30 := blk_frozen BK151.out 0
                    have hns30_0 := NB141_151.out
                    have hms30_0 := NB151_141.out
                    have hs31 : w29.cell? ⟨gb151, 1, none⟩ = some (.int .u64 0) := (blk_cell BK151.out 1).trans rfl
                    have hfs31 := blk_frozen BK151.out 1
                    have hns31_0 := NB141_151.out
                    have hms31_0 := NB151_141.out
                    have hs32 : w29.cell? ⟨gb151, 2, none⟩ = some (.int .u64 0) := (blk_cell BK151.out 2).trans rfl
                    have hfs32 := blk_frozen BK151.out 2
                    have hns32_0 := NB141_151.out
                    have hms32_0 := NB151_141.out
                    refine skip_ (w1 := ?_) (by rfl) rfl ?_ ?_
                    rotate_left
                    · go_simp
                      rfl
                    refine hK.out _ _ ⟨((cell_far (p := ⟨gb151, _, none⟩) NB141_151.out _).trans (((cell_far (p := ⟨gb151, _, none⟩) NB141_151.out _).trans (((cell_far (p := ⟨gb151, _, none⟩) NB141_151.out _).trans (hHeld.1)))))), ((cell_far (p := ⟨gb151, _, none⟩) NB141_151.out _).trans (((cell_far (p := ⟨gb151, _, none⟩) NB141_151.out _).trans (((cell_far (p := ⟨gb151, _, none⟩) NB141_151.out _).trans (hHeld.2.1)))))), ((cell_far (p := ⟨gb151, _, none⟩) NB141_151.out _).trans (((cell_far (p := ⟨gb151, _, none⟩) NB141_151.out _).trans (((cell_far (p := ⟨gb151, _, none⟩) NB141_151.out _).trans (hHeld.2.2.1)))))), ((cell_far (p := ⟨gb151, _, none⟩) (by first | exact Nat.ne_of_lt (Nat.lt_of_lt_of_le (by have := World.block_lt_of_cell? _ _ hw146_0; first | rwa [add_block] at this | exact this) GW151.out) | (rw [add_block]; exact Nat.ne_of_lt (Nat.lt_of_lt_of_le (by have := World.block_lt_of_cell? _ _ hw146_0; first | rwa [add_block] at this | exact this) GW151.out)) | (show (Addr.add _ _).block ≠ _; rw [add_block]; exact Nat.ne_of_lt (Nat.lt_of_lt_of_le (by have := World.block_lt_of_cell? _ _ hw146_0; first | rwa [add_block] at this | exact this) GW151.out)) | (dsimp only; exact Nat.ne_of_lt (Nat.lt_of_lt_of_le (by have := World.block_lt_of_cell? _ _ hw146_0; first | rwa [add_block] at this | exact this) GW151.out))) _).trans (((cell_far (p := ⟨gb151, _, none⟩) (by first | exact Nat.ne_of_lt (Nat.lt_of_lt_of_le (by have := World.block_lt_of_cell? _ _ hw146_0; first | rwa [add_block] at this | exact this) GW151.out) | (rw [add_block]; exact Nat.ne_of_lt (Nat.lt_of_lt_of_le (by have := World.block_lt_of_cell? _ _ hw146_0; first | rwa [add_block] at this | exact this) GW151.out)) | (show (Addr.add _ _).block ≠ _; rw [add_block]; exact Nat.ne_of_lt (Nat.lt_of_lt_of_le (by have := World.block_lt_of_cell? _ _ hw146_0; first | rwa [add_block] at this | exact this) GW151.out)) | (dsimp only; exact Nat.ne_of_lt (Nat.lt_of_lt_of_le (by have := World.block_lt_of_cell? _ _ hw146_0; first | rwa [add_block] at this | exact this) GW151.out))) _).trans (((cell_far (p := ⟨gb151, _, none⟩) (by first | exact Nat.ne_of_lt (Nat.lt_of_lt_of_le (by have := World.block_lt_of_cell? _ _ hw146_0; first | rwa [add_block] at this | exact this) GW151.out) | (rw [add_block]; exact Nat.ne_of_lt (Nat.lt_of_lt_of_le (by have := World.block_lt_of_cell? _ _ hw146_0; first | rwa [add_block] at this | exact this) GW151.out)) | (show (Addr.add _ _).block ≠ _; rw [add_block]; exact Nat.ne_of_lt (Nat.lt_of_lt_of_le (by have := World.block_lt_of_cell? _ _ hw146_0; first | rwa [add_block] at this | exact this) GW151.out)) | (dsimp only; exact Nat.ne_of_lt (Nat.lt_of_lt_of_le (by have := World.block_lt_of_cell? _ _ hw146_0; first | rwa [add_block] at this | exact this) GW151.out))) _).trans (hHeld.2.2.2))))))⟩ (fun hHeld => ?_)
                    clear hK K
                    refine pure_ (i := 12) (N := some 15) (v := ?_) (a' := ?_) #[true, true, true, true, true, true, true, true, true, true, true, true, true] rfl rfl (any_of HT_.out (by kernel_rfl)) (fun _ _ _ h => h) (Or.inl ⟨by rfl, ?_⟩) ?_ ?_
                    rotate_left
                    · intro w'
                      go_simp
                      with_reducible rfl
                    rotate_left
                    · simp only [Act.put, List.setIfInBounds_toArray, List.set_cons_zero, List.set_cons_succ, i64_w, i32_w]
                      rfl
                    refine done_ (done_of HT_.out (by kernel_rfl)) ?_
                    have p152 : 0 ≤ (x13_1 : Int) := of_decide_eq_true (by first | (with_reducible assumption) | assumption)
                    have q152 : x13_1 < (l3.length : Int) := of_decide_eq_true (by first | (with_reducible assumption) | assumption)
                    obtain ⟨ad152, e152, hx152_0⟩ := Kd.at_int HR3.out x13_1 p152 q152
                    obtain rfl : ad146 = ad152 := (by injection e152)
                    have hn152_0 : ad146.block ≠ gb151 := Nat.ne_of_lt (Nat.lt_of_lt_of_le (by have := World.block_lt_of_cell? _ _ hx152_0; first | rwa [add_block] at this | exact this) GW151.out)
                    have hn152_1 : ad146.block ≠ gb151 := Nat.ne_of_lt (Nat.lt_of_lt_of_le (by have := World.block_lt_of_cell? _ _ hx152_0; first | rwa [add_block] at this | exact this) GW151.out)
                    have hn152_2 : ad146.block ≠ gb151 := Nat.ne_of_lt (Nat.lt_of_lt_of_le (by have := World.block_lt_of_cell? _ _ hx152_0; first | rwa [add_block] at this | exact this) GW151.out)
                    replace hx152_0 := (HB.out.cell (World.block_lt_of_cell? w _ hx152_0)).trans hx152_0
                    replace hx152_0 := (cell_far (p := ⟨gb151, 0, none⟩) (by first | (rw [add_block]; exact hn152_0) | (show (Addr.add _ _).block ≠ _; rw [add_block]; exact hn152_0) | exact hn152_0) (.int .u64 t147)).trans hx152_0
                    replace hx152_0 := (cell_far (p := ⟨gb151, 1, none⟩) (by first | (rw [add_block]; exact hn152_1) | (show (Addr.add _ _).block ≠ _; rw [add_block]; exact hn152_1) | exact hn152_1) (.int .u64 t148)).trans hx152_0
                    replace hx152_0 := (cell_far (p := ⟨gb151, 2, none⟩) (by first | (rw [add_block]; exact hn152_2) | (show (Addr.add _ _).block ≠ _; rw [add_block]; exact hn152_2) | exact hn152_2) (.int .u64 t149)).trans hx152_0
                    clear hn152_0
                    clear hn152_1
                    clear hn152_2
                    replace p152 := eq_true p152
                    replace q152 := eq_true q152
                    have hnb33 := NB151_141.out
                    have hnc33 := NB141_151.out
                    have hcz34_0 : w29.cell? ⟨gb151, 0, none⟩ = some (.int .u64 0) := (blk_cell BK151.out 0).trans rfl
                    have hcz34_1 : w29.cell? ⟨gb151, 1, none⟩ = some (.int .u64 0) := (blk_cell BK151.out 1).trans rfl
                    have hcz34_2 : w29.cell? ⟨gb151, 2, none⟩ = some (.int .u64 0) := (blk_cell BK151.out 2).trans rfl
                    have hfz34_0 := blk_frozen BK151.out 0
                    have hfz34_1 := blk_frozen BK151.out 1
                    have hfz34_2 := blk_frozen BK151.out 2
                    have hcz35_0 : w29.cell? ⟨gb141, 0, none⟩ = some (.int .u64 t143) := (blk_cell BK141.out 0).trans rfl
                    have hcz35_1 : w29.cell? ⟨gb141, 1, none⟩ = some (.int .u64 t144) := (blk_cell BK141.out 1).trans rfl
                    have hcz35_2 : w29.cell? ⟨gb141, 2, none⟩ = some (.int .u64 t145) := (blk_cell BK141.out 2).trans rfl
                    have hfz35_0 := blk_frozen BK141.out 0
                    have hfz35_1 := blk_frozen BK141.out 1
                    have hfz35_2 := blk_frozen BK141.out 2
                    go_upto_region 14 with (fail)
                    (try simp only [Act.put, List.setIfInBounds_toArray, List.set_cons_zero, List.set_cons_succ])
                    have H := HS21.out
                    clear HS21
                    by_cases c36 : (IntKind.u64.wrap (x12_1 + (IntKind.u64.wrap (rd l3 x13_1)))) > (IntKind.u64.wrap ((IntKind.u64.wrap (a0)) + (IntKind.u64.wrap (Int.tdiv (IntKind.u64.wrap ((IntKind.u64.wrap (a1)) * (IntKind.u64.wrap (x11_1 + (IntKind.u64.wrap (rd l2 x13_1)))))) 1000))))
                    · rw [if_pos c36] at H
                      have c36b0 : decide ((IntKind.u64.wrap ((IntKind.u64.wrap (a0)) + (IntKind.u64.wrap (Int.tdiv (IntKind.u64.wrap ((IntKind.u64.wrap (a1)) * (IntKind.u64.wrap (x11_1 + (IntKind.u64.wrap (rd l2 x13_1)))))) 1000)))) < (IntKind.u64.wrap (x12_1 + (IntKind.u64.wrap (rd l3 x13_1))))) = true := decide_eq_true c36
                      clear c36
                      obtain rfl := Option.some.inj H
                      go_wp2
                      go_ret
                      exact ⟨by first | rfl | (simp [errW_none, errW_some] <;> rfl) | (simp [*, errW_none, errW_some] <;> rfl), by repeat (first | (with_reducible first | exact HB.out | apply below_alloc | apply pw_below_drewN | apply below_drew1 | refine below_set ?_ GE141.out | refine below_set ?_ GE151.out) | exact HB.out)⟩
                    · rw [if_neg c36] at H
                      have c36b0 : decide ((IntKind.u64.wrap ((IntKind.u64.wrap (a0)) + (IntKind.u64.wrap (Int.tdiv (IntKind.u64.wrap ((IntKind.u64.wrap (a1)) * (IntKind.u64.wrap (x11_1 + (IntKind.u64.wrap (rd l2 x13_1)))))) 1000)))) < (IntKind.u64.wrap (x12_1 + (IntKind.u64.wrap (rd l3 x13_1))))) = false := decide_eq_false c36
                      clear c36
                      by_cases c37 : t148 > (IntKind.u64.wrap (a0))
                      · rw [if_pos c37] at H
                        have c37b0 : decide ((IntKind.u64.wrap (a0)) < t148) = true := decide_eq_true c37
                        clear c37
                        obtain rfl := Option.some.inj H
                        have hnb38 := NB141_151.out
                        have hnc38 := NB151_141.out
                        have hcz39_0 : w29.cell? ⟨gb141, 0, none⟩ = some (.int .u64 t143) := (blk_cell BK141.out 0).trans rfl
                        have hcz39_1 : w29.cell? ⟨gb141, 1, none⟩ = some (.int .u64 t144) := (blk_cell BK141.out 1).trans rfl
                        have hcz39_2 : w29.cell? ⟨gb141, 2, none⟩ = some (.int .u64 t145) := (blk_cell BK141.out 2).trans rfl
                        have hfz39_0 := blk_frozen BK141.out 0
                        have hfz39_1 := blk_frozen BK141.out 1
                        have hfz39_2 := blk_frozen BK141.out 2
                        go_wp2
                        go_ret
                        exact ⟨by first | rfl | (simp [errW_none, errW_some] <;> rfl) | (simp [*, errW_none, errW_some] <;> rfl), by repeat (first | (with_reducible first | exact HB.out | apply below_alloc | apply pw_below_drewN | apply below_drew1 | refine below_set ?_ GE141.out | refine below_set ?_ GE151.out) | exact HB.out)⟩
                      · rw [if_neg c37] at H
                        have c37b0 : decide ((IntKind.u64.wrap (a0)) < t148) = false := decide_eq_false c37
                        clear c37
                        by_cases c40 : t149 > 999
                        · rw [if_pos c40] at H
                          have c40b0 : decide (999 < t149) = true := decide_eq_true c40
                          clear c40
                          obtain rfl := Option.some.inj H
                          have hnb41 := NB141_151.out
                          have hnc41 := NB151_141.out
                          have hcz42_0 : w29.cell? ⟨gb141, 0, none⟩ = some (.int .u64 t143) := (blk_cell BK141.out 0).trans rfl
                          have hcz42_1 : w29.cell? ⟨gb141, 1, none⟩ = some (.int .u64 t144) := (blk_cell BK141.out 1).trans rfl
                          have hcz42_2 : w29.cell? ⟨gb141, 2, none⟩ = some (.int .u64 t145) := (blk_cell BK141.out 2).trans rfl
                          have hfz42_0 := blk_frozen BK141.out 0
                          have hfz42_1 := blk_frozen BK141.out 1
                          have hfz42_2 := blk_frozen BK141.out 2
                          go_wp2
                          go_ret
                          exact ⟨by first | rfl | (simp [errW_none, errW_some] <;> rfl) | (simp [*, errW_none, errW_some] <;> rfl), by repeat (first | (with_reducible first | exact HB.out | apply below_alloc | apply pw_below_drewN | apply below_drew1 | refine below_set ?_ GE141.out | refine below_set ?_ GE151.out) | exact HB.out)⟩
                        · rw [if_neg c40] at H
                          have c40b0 : decide (999 < t149) = false := decide_eq_false c40
                          clear c40
                          have H' := Aside0.mk H
                          clear H
                          have hnb43 := NB141_151.out
                          have hnc43 := NB151_141.out
                          have hcz44_0 : w29.cell? ⟨gb141, 0, none⟩ = some (.int .u64 t143) := (blk_cell BK141.out 0).trans rfl
                          have hcz44_1 : w29.cell? ⟨gb141, 1, none⟩ = some (.int .u64 t144) := (blk_cell BK141.out 1).trans rfl
                          have hcz44_2 : w29.cell? ⟨gb141, 2, none⟩ = some (.int .u64 t145) := (blk_cell BK141.out 2).trans rfl
                          have hfz44_0 := blk_frozen BK141.out 0
                          have hfz44_1 := blk_frozen BK141.out 1
                          have hfz44_2 := blk_frozen BK141.out 2
                          go_wp2
                          go_roundg kj10
                          case measure => have := HK1.out; have := HJ10.out; omega
                          case rel => exact ⟨(IntKind.u64.wrap (x11_1 + (IntKind.u64.wrap (rd l2 x13_1)))), (IntKind.u64.wrap (x12_1 + (IntKind.u64.wrap (rd l3 x13_1)))), (wrap64 (x13_1 + 1)), (t147), (t148), (t149), (by first | rfl | (simp; done) | (simp [*]; done)), (by first | rfl | (simp; done) | (simp [*]; done)), (by first | rfl | (simp; done) | (simp [*]; done)), H', ⟨by have := HK1.out; have := HJ10.out; omega⟩, ⟨by (with_reducible repeat (first | refine blk_drewN ?_ _ | refine blk_drew ?_ | refine blk_alloc ?_ _)); refine blk_put (cs := #[.int .u64 t147, .int .u64 t148, .int .u64 t145]) ?_ 2 _ rfl; (with_reducible repeat (first | refine blk_drewN ?_ _ | refine blk_drew ?_ | refine blk_alloc ?_ _)); refine blk_put (cs := #[.int .u64 t147, .int .u64 t144, .int .u64 t145]) ?_ 1 _ rfl; (with_reducible repeat (first | refine blk_drewN ?_ _ | refine blk_drew ?_ | refine blk_alloc ?_ _)); refine blk_put (cs := #[.int .u64 t143, .int .u64 t144, .int .u64 t145]) ?_ 0 _ rfl; (with_reducible repeat (first | refine blk_drewN ?_ _ | refine blk_drew ?_ | refine blk_alloc ?_ _)); refine blk_far ?_ NB141_151.out _; (with_reducible repeat (first | refine blk_drewN ?_ _ | refine blk_drew ?_ | refine blk_alloc ?_ _)); refine blk_far ?_ NB141_151.out _; (with_reducible repeat (first | refine blk_drewN ?_ _ | refine blk_drew ?_ | refine blk_alloc ?_ _)); refine blk_far ?_ NB141_151.out _; (with_reducible repeat (first | refine blk_drewN ?_ _ | refine blk_drew ?_ | refine blk_alloc ?_ _)); exact BK141.out⟩, ⟨by repeat (first | (with_reducible first | exact HB.out | apply below_alloc | apply pw_below_drewN | apply below_drew1 | refine below_set ?_ GE141.out | refine below_set ?_ GE151.out) | exact HB.out)⟩⟩
                  · replace c20 := Bool.eq_false_iff.mpr c20
                    subst c20
                    have H1 : (if x12_1 > (IntKind.u64.wrap ((IntKind.u64.wrap (a0)) + (IntKind.u64.wrap (Int.tdiv (IntKind.u64.wrap ((IntKind.u64.wrap (a1)) * (IntKind.u64.wrap (x11_1 + (IntKind.u64.wrap (rd l2 x13_1)))))) 1000)))) then (some false) else (if t148 > (IntKind.u64.wrap (a0)) then (some false) else (if t149 > 999 then (some false) else (wigwaglaw16_PacerBounds.l0 kj10 a0 a1 l2 l3 t137 (IntKind.u64.wrap (x11_1 + (IntKind.u64.wrap (rd l2 x13_1)))) x12_1 (wrap64 (x13_1 + 1)) t147 t148 t149)))) = some r := by rw [if_neg (show ¬ (false = true) by decide)] at H; exact H
                    clear H
                    have H := H1
                    clear H1
                    have HS45 := Aside0.mk H
                    clear H
                    have p142 : 0 ≤ (x13_1 : Int) := of_decide_eq_true (by first | (with_reducible assumption) | assumption)
                    have q142 : x13_1 < (l2.length : Int) := of_decide_eq_true (by first | (with_reducible assumption) | assumption)
                    obtain ⟨ad142, e142, hx142_0⟩ := Kd.at_int HR2.out x13_1 p142 q142
                    cases e142
                    replace hx142_0 := (HB.out.cell (World.block_lt_of_cell? w _ hx142_0)).trans hx142_0
                    replace p142 := eq_true p142
                    replace q142 := eq_true q142
                    have hcz46_0 : wc.cell? ⟨gb141, 0, none⟩ = some (.int .u64 x142000_1) := (blk_cell BK141.out 0).trans rfl
                    have hcz46_1 : wc.cell? ⟨gb141, 1, none⟩ = some (.int .u64 x142001_1) := (blk_cell BK141.out 1).trans rfl
                    have hcz46_2 : wc.cell? ⟨gb141, 2, none⟩ = some (.int .u64 x142002_1) := (blk_cell BK141.out 2).trans rfl
                    have hfz46_0 := blk_frozen BK141.out 0
                    have hfz46_1 := blk_frozen BK141.out 1
                    have hfz46_2 := blk_frozen BK141.out 2
                    try go_wp2_with (first | ((with_reducible refine gate_callee (f := 13) rfl ?_); refine goesL_ (some 49) rfl rfl Try.func13 (by kernel_rfl) rfl #[.agg #[.int .u64 x142000_1, .int .u64 x142001_1, .int .u64 x142002_1], .int .u64 (IntKind.u64.wrap (x11_1 + (IntKind.u64.wrap (rd l2 x13_1)))), .int .u64 (IntKind.u64.wrap (a1)), .int .u64 (IntKind.u64.wrap (a0))] rfl (by (try simp only [List.map_toArray, List.map_cons, List.map_nil]); first | done | rfl | (simp only [List.length_drop, List.length_take]; rfl)) ?_; (with_reducible refine (pacer_Fill.calls x142000_1 x142001_1 x142002_1 (IntKind.u64.wrap (x11_1 + (IntKind.u64.wrap (rd l2 x13_1)))) (IntKind.u64.wrap (a1)) (IntKind.u64.wrap (a0)) t143 t144 t145 _ A17.out).mono ?_); rintro e w47 ⟨rfl, hb⟩; refine ⟨_, rfl, ?_⟩; have n0_ := Aside0.mk (blk_below (g := gb141) (o := .cells #[.int .u64 x142000_1, .int .u64 x142001_1, .int .u64 x142002_1] 24 (0, 0)) (by (with_reducible repeat (first | refine blk_drewN ?_ _ | refine blk_drew ?_ | refine blk_alloc ?_ _)); exact BK141.out) hb); have n1_ := Aside0.mk (below_step (by repeat (first | (with_reducible first | exact HB.out | apply below_alloc | apply pw_below_drewN | apply below_drew1 | refine below_set ?_ GE141.out) | exact HB.out)) hb); clear BK141; clear HB; have BK141 := n0_; have HB := n1_; clear n0_ n1_; (try clear hb); (try clear hb2); (try clear hk); (try clear hi); have hcz48_0 : w47.cell? ⟨gb141, 0, none⟩ = some (.int .u64 x142000_1) := (blk_cell BK141.out 0).trans rfl; have hcz48_1 : w47.cell? ⟨gb141, 1, none⟩ = some (.int .u64 x142001_1) := (blk_cell BK141.out 1).trans rfl; have hcz48_2 : w47.cell? ⟨gb141, 2, none⟩ = some (.int .u64 x142002_1) := (blk_cell BK141.out 2).trans rfl; have hfz48_0 := blk_frozen BK141.out 0; have hfz48_1 := blk_frozen BK141.out 1; have hfz48_2 := blk_frozen BK141.out 2))
                    have n0_ : Aside0 ((((w47.setCell ⟨gb141, 0, none⟩ (.int .u64 t143)).setCell ⟨gb141, 1, none⟩ (.int .u64 t144)).setCell ⟨gb141, 2, none⟩ (.int .u64 t145)).heap[gb141]? = some (.cells #[.int .u64 t143, .int .u64 t144, .int .u64 t145] 24 (0, 0))) := ⟨by (with_reducible repeat (first | refine blk_drewN ?_ _ | refine blk_drew ?_ | refine blk_alloc ?_ _)); refine blk_put (cs := #[.int .u64 t143, .int .u64 t144, .int .u64 x142002_1]) ?_ 2 _ rfl; (with_reducible repeat (first | refine blk_drewN ?_ _ | refine blk_drew ?_ | refine blk_alloc ?_ _)); refine blk_put (cs := #[.int .u64 t143, .int .u64 x142001_1, .int .u64 x142002_1]) ?_ 1 _ rfl; (with_reducible repeat (first | refine blk_drewN ?_ _ | refine blk_drew ?_ | refine blk_alloc ?_ _)); refine blk_put (cs := #[.int .u64 x142000_1, .int .u64 x142001_1, .int .u64 x142002_1]) ?_ 0 _ rfl; (with_reducible repeat (first | refine blk_drewN ?_ _ | refine blk_drew ?_ | refine blk_alloc ?_ _)); exact BK141.out⟩
                    have n1_ : Aside0 (Below w.heap.size w (((w47.setCell ⟨gb141, 0, none⟩ (.int .u64 t143)).setCell ⟨gb141, 1, none⟩ (.int .u64 t144)).setCell ⟨gb141, 2, none⟩ (.int .u64 t145))) := ⟨by repeat (first | (with_reducible first | exact HB.out | apply below_alloc | apply pw_below_drewN | apply below_drew1 | refine below_set ?_ GE141.out) | exact HB.out)⟩
                    (try clear BK141)
                    (try clear HB)
                    generalize (((w47.setCell ⟨gb141, 0, none⟩ (.int .u64 t143)).setCell ⟨gb141, 1, none⟩ (.int .u64 t144)).setCell ⟨gb141, 2, none⟩ (.int .u64 t145)) = w49 at n0_ n1_ ⊢
                    have BK141 := n0_
                    have HB := n1_
                    clear n0_ n1_
                    have n0_ := Aside0.mk (blk_drew BK141.out)
                    have n1_ := Aside0.mk (below_drew1 HB.out)
                    clear BK141
                    clear HB
                    have BK141 := n0_
                    have HB := n1_
                    clear n0_ n1_
                    have p146 : 0 ≤ (x13_1 : Int) := of_decide_eq_true (by first | (with_reducible assumption) | assumption)
                    have q146 : x13_1 < (l3.length : Int) := of_decide_eq_true (by first | (with_reducible assumption) | assumption)
                    obtain ⟨ad146, e146, hx146_0⟩ := Kd.at_int HR3.out x13_1 p146 q146
                    have hw146_0 := hx146_0
                    cases e146
                    replace hx146_0 := (HB.out.cell (World.block_lt_of_cell? w _ hx146_0)).trans hx146_0
                    replace p146 := eq_true p146
                    replace q146 := eq_true q146
                    refine start_ (n := 13) (S := fun w' => w'.cell? ⟨gb141, 0, none⟩ = some (.int .u64 t143) ∧ w'.cell? ⟨gb141, 1, none⟩ = some (.int .u64 t144) ∧ w'.cell? ⟨gb141, 2, none⟩ = some (.int .u64 t145) ∧ w'.cell? (ad146.add (x13_1).toNat) = some (.int .u16 (rd l3 x13_1))) (ds := []) #[false, false, false, false, false, false, false, false, false, false, false, false, false] (by kernel_rfl) rfl rfl ⟨(blk_cell BK141.out 0).trans rfl, (blk_cell BK141.out 1).trans rfl, (blk_cell BK141.out 2).trans rfl, ((HB.out.cell (World.block_lt_of_cell? w _ hw146_0)).trans hw146_0)⟩ (fun hHeld => ?_); refine with_tabW wigwaglaw16_PacerBounds.tab10 wigwaglaw16_PacerBounds.bits10 (fun HT_ HW_ => ?_)
                    generalize w49.drew = w50 at BK141 HB hx146_0 hHeld ⊢
                    refine pure_ (i := 1) (N := some 52) (v := ?_) (a' := ?_) #[false, true, false, false, false, false, false, false, false, false, false, false, false] rfl rfl (any_of HT_.out (by kernel_rfl)) (fun _ _ _ h => h) (Or.inl ⟨by rfl, ?_⟩) ?_ ?_
                    rotate_left
                    · intro w'
                      go_simp
                      with_reducible rfl
                    rotate_left
                    · simp only [Act.put, List.setIfInBounds_toArray, List.set_cons_zero, List.set_cons_succ, i64_w, i32_w]
                      rfl
                    refine pure_ (i := 2) (N := some 53) (v := ?_) (a' := ?_) #[false, true, true, false, false, false, false, false, false, false, false, false, false] rfl rfl (any_of HT_.out (by kernel_rfl)) (fun _ _ _ h => h) (Or.inl ⟨by rfl, ?_⟩) ?_ ?_
                    rotate_left
                    · intro w'
                      go_simp
                      with_reducible rfl
                    rotate_left
                    · simp only [Act.put, List.setIfInBounds_toArray, List.set_cons_zero, List.set_cons_succ, i64_w, i32_w]
                      rfl
                    refine pure_ (i := 3) (N := some 54) (v := ?_) (a' := ?_) #[false, true, true, true, false, false, false, false, false, false, false, false, false] rfl rfl (any_of HT_.out (by kernel_rfl)) (fun _ _ _ h => h) (Or.inl ⟨by rfl, ?_⟩) ?_ ?_
                    rotate_left
                    · intro w'
                      go_simp
                      with_reducible rfl
                    rotate_left
                    · simp only [Act.put, List.setIfInBounds_toArray, List.set_cons_zero, List.set_cons_succ, i64_w, i32_w]
                      rfl
                    refine take_ (i := 0) (N := some 51) (v := ?_) (a' := ?_) #[true, true, true, true, false, false, false, false, false, false, false, false, false] rfl rfl (take_ofW HT_.out HW_.out (by kernel_rfl)) (fun _ _ _ h => h) (Or.inl ⟨by rfl, ?_⟩) hHeld ?_ ?_
                    rotate_left
                    · rintro w' ⟨s0, s1, s2, s3⟩
                      go_simp
                      with_reducible rfl
                    rotate_left
                    · simp only [Act.put, List.setIfInBounds_toArray, List.set_cons_zero, List.set_cons_succ, i64_w, i32_w]
                      rfl
                    refine take_ (i := 4) (N := some 55) (v := ?_) (a' := ?_) #[true, true, true, true, true, false, false, false, false, false, false, false, false] rfl rfl (take_ofW HT_.out HW_.out (by kernel_rfl)) (fun _ _ _ h => h) (Or.inl ⟨by rfl, ?_⟩) hHeld ?_ ?_
                    rotate_left
                    · rintro w' ⟨s0, s1, s2, s3⟩
                      go_simp
                      with_reducible rfl
                    rotate_left
                    · simp only [Act.put, List.setIfInBounds_toArray, List.set_cons_zero, List.set_cons_succ, i64_w, i32_w]
                      rfl
                    refine pure_ (i := 5) (N := some 56) (v := ?_) (a' := ?_) #[true, true, true, true, true, true, false, false, false, false, false, false, false] rfl rfl (any_of HT_.out (by kernel_rfl)) (fun _ _ _ h => h) (Or.inl ⟨by rfl, ?_⟩) ?_ ?_
                    rotate_left
                    · intro w'
                      go_simp
                      with_reducible rfl
                    rotate_left
                    · simp only [Act.put, List.setIfInBounds_toArray, List.set_cons_zero, List.set_cons_succ, i64_w, i32_w]
                      rfl
                    refine join_ (σ := Nat) 2 #[true, true, true, true, true, true, true, true, true, true, true, false, false] (fun s_ => [(57, .tuple #[.agg #[.int .u64 t147, .int .u64 t148, .int .u64 t149], .bool false]), (14, .pointer (some ⟨s_, 0, none⟩)), (50, .tuple #[.agg #[.int .u64 t147, .int .u64 t148, .int .u64 t149], .bool false]), (58, .agg #[.int .u64 t147, .int .u64 t148, .int .u64 t149]), (59, .bool false)]) (fun s_ w' => (w'.cell? ⟨gb141, 0, none⟩ = some (.int .u64 t143) ∧ w'.cell? ⟨gb141, 1, none⟩ = some (.int .u64 t144) ∧ w'.cell? ⟨gb141, 2, none⟩ = some (.int .u64 t145) ∧ w'.cell? (ad146.add (x13_1).toNat) = some (.int .u16 (rd l3 x13_1))) ∧ (w'.heap[gb141]? = some (.cells #[.int .u64 t143, .int .u64 t144, .int .u64 t145] 24 (0, 0))) ∧ (w'.heap[s_]? = some (.cells #[.int .u64 0, .int .u64 0, .int .u64 0] 24 (0, 0))) ∧ (w.heap.size ≤ s_) ∧ (w.heap.size ≤ s_) ∧ (gb141 ≠ s_) ∧ (s_ ≠ gb141) ∧ (Below w.heap.size w w')) ?_ ?_
                    rotate_left
                    · intro hCont
                      refine two_ (i := 6) (j := 10) (Ni := some 57) (Nj := some 14) #[true, true, true, true, true, true, true, false, false, false, false, false, false] #[true, true, true, true, true, true, false, false, false, false, true, false, false] rfl rfl rfl rfl (two_of HT_.out (by kernel_rfl)) (by decide) (by decide) (fun K hK => ?_) (fun K hK => ?_)
                      · skip
                        refine goes_ Try.func9 (by kernel_rfl) rfl #[.agg #[.int .u64 t143, .int .u64 t144, .int .u64 t145], .int .u64 (IntKind.u64.wrap (rd l3 x13_1))] (by rfl) rfl rfl (by (try simp only [List.map_toArray, List.map_cons, List.map_nil]); first | done | rfl | (simp only [List.length_drop, List.length_take]; rfl)) ?_
                        with_reducible refine (pacer_Take.calls t143 t144 t145 (IntKind.u64.wrap (rd l3 x13_1)) t147 t148 t149 false _ A19.out).mono ?_
                        rintro e w51 ⟨rfl, hb⟩
                        refine ⟨_, rfl, ?_⟩
                        have n0_ := Aside0.mk (blk_below (g := gb141) (o := .cells #[.int .u64 t143, .int .u64 t144, .int .u64 t145] 24 (0, 0)) (by (with_reducible repeat (first | refine blk_drewN ?_ _ | refine blk_drew ?_ | refine blk_alloc ?_ _)); exact BK141.out) hb)
                        have n1_ := Aside0.mk (below_step (by repeat (first | (with_reducible first | exact HB.out | apply below_alloc | apply pw_below_drewN | apply below_drew1 | refine below_set ?_ GE141.out) | exact HB.out)) hb)
                        clear BK141
                        clear HB
                        have BK141 := n0_
                        have HB := n1_
                        clear n0_ n1_
                        (try clear hb)
                        (try clear hb2)
                        (try clear hk)
                        (try clear hi)
                        refine hK.out _ _ ⟨(blk_cell BK141.out 0).trans rfl, (blk_cell BK141.out 1).trans rfl, (blk_cell BK141.out 2).trans rfl, ((HB.out.cell (World.block_lt_of_cell? w _ hw146_0)).trans hw146_0)⟩ (fun hHeld => ?_)
                        clear hK K
                        refine norm_ (a' := ?_) ?_ ?_
                        rotate_left
                        · show Act.put _ (some 57) _ = _
                          simp only [Act.put, List.setIfInBounds_toArray, List.set_cons_zero, List.set_cons_succ, i64_w, i32_w]
                          rfl
                        refine pure_ (i := 7) (N := some 50) (v := ?_) (a' := ?_) #[true, true, true, true, true, true, true, true, false, false, false, false, false] rfl rfl (any_of HT_.out (by kernel_rfl)) (fun _ _ _ h => h) (Or.inl ⟨by rfl, ?_⟩) ?_ ?_
                        rotate_left
                        · intro w'
                          go_simp
                          with_reducible rfl
                        rotate_left
                        · simp only [Act.put, List.setIfInBounds_toArray, List.set_cons_zero, List.set_cons_succ, i64_w, i32_w]
                          rfl
                        refine pure_ (i := 8) (N := some 58) (v := ?_) (a' := ?_) #[true, true, true, true, true, true, true, true, true, false, false, false, false] rfl rfl (any_of HT_.out (by kernel_rfl)) (fun _ _ _ h => h) (Or.inl ⟨by rfl, ?_⟩) ?_ ?_
                        rotate_left
                        · intro w'
                          go_simp
                          with_reducible rfl
                        rotate_left
                        · simp only [Act.put, List.setIfInBounds_toArray, List.set_cons_zero, List.set_cons_succ, i64_w, i32_w]
                          rfl
                        refine pure_ (i := 9) (N := some 59) (v := ?_) (a' := ?_) #[true, true, true, true, true, true, true, true, true, true, false, false, false] rfl rfl (any_of HT_.out (by kernel_rfl)) (fun _ _ _ h => h) (Or.inl ⟨by rfl, ?_⟩) ?_ ?_
                        rotate_left
                        · intro w'
                          go_simp
                          with_reducible rfl
                        rotate_left
                        · simp only [Act.put, List.setIfInBounds_toArray, List.set_cons_zero, List.set_cons_succ, i64_w, i32_w]
                          rfl
                        refine one_ (i := 10) (N := some 14) #[true, true, true, true, true, true, true, true, true, true, true, false, false] rfl rfl (one_of HT_.out (by kernel_rfl)) (by decide) (fun K hK => ?_)
                        refine box_step ?hg (N := 14) ?hd (cs := #[.int .u64 0, .int .u64 0, .int .u64 0]) (t := 24) ?hr ?_; (case hd => rfl); (case hg => rfl); (case hr => first | (go_simp; done) | (go_simp; rfl))
                        intro gb151 hg w52 hbox hb
                        have n0_ := Aside0.mk (blk_below (g := gb141) (o := .cells #[.int .u64 t143, .int .u64 t144, .int .u64 t145] 24 (0, 0)) (by (with_reducible repeat (first | refine blk_drewN ?_ _ | refine blk_drew ?_ | refine blk_alloc ?_ _)); exact BK141.out) hb)
                        have n1_ := Aside0.mk (below_step (by repeat (first | (with_reducible first | exact HB.out | apply below_alloc | apply pw_below_drewN | apply below_drew1 | refine below_set ?_ GE141.out) | exact HB.out)) hb)
                        have n2_ := Aside0.mk (hbox)
                        have n3_ := Aside0.mk ((by rw [hg]; exact (below_size (by repeat (first | (with_reducible first | exact HB.out | apply below_alloc | apply pw_below_drewN | apply below_drew1 | refine below_set ?_ GE141.out) | exact HB.out))) : w.heap.size ≤ gb151))
                        have n4_ := Aside0.mk ((by rw [hg]; exact (below_size (by repeat (first | (with_reducible first | exact HB.out | apply below_alloc | apply pw_below_drewN | apply below_drew1 | refine below_set ?_ GE141.out) | exact HB.out))) : w.heap.size ≤ gb151))
                        have n5_ := Aside0.mk ((by rw [hg]; exact Nat.ne_of_lt (blk_lt (g := gb141) (o := .cells #[.int .u64 t143, .int .u64 t144, .int .u64 t145] 24 (0, 0)) (by (with_reducible repeat (first | refine blk_drewN ?_ _ | refine blk_drew ?_ | refine blk_alloc ?_ _)); exact BK141.out)) : gb141 ≠ gb151))
                        have n6_ := Aside0.mk ((by rw [hg]; exact Nat.ne_of_gt (blk_lt (g := gb141) (o := .cells #[.int .u64 t143, .int .u64 t144, .int .u64 t145] 24 (0, 0)) (by (with_reducible repeat (first | refine blk_drewN ?_ _ | refine blk_drew ?_ | refine blk_alloc ?_ _)); exact BK141.out)) : gb151 ≠ gb141))
                        clear BK141
                        clear HB
                        have BK141 := n0_
                        have HB := n1_
                        have BK151 := n2_
                        have GW151 := n3_
                        have GE151 := n4_
                        have NB141_151 := n5_
                        have NB151_141 := n6_
                        clear n0_ n1_ n2_ n3_ n4_ n5_ n6_
                        clear hb hbox hg
                        refine hK.out _ _ ⟨(blk_cell BK141.out 0).trans rfl, (blk_cell BK141.out 1).trans rfl, (blk_cell BK141.out 2).trans rfl, ((HB.out.cell (World.block_lt_of_cell? w _ hw146_0)).trans hw146_0)⟩ (fun hHeld => ?_)
                        clear hK K
                        refine norm_ (a' := ?_) ?_ ?_
                        rotate_left
                        · show Act.put _ (some 14) _ = _
                          simp only [Act.put, List.setIfInBounds_toArray, List.set_cons_zero, List.set_cons_succ, i64_w, i32_w]
                          rfl
                        exact norm_ (by simp only [putAll, Act.put, List.setIfInBounds_toArray, List.set_cons_zero, List.set_cons_succ]) (hCont (gb151) _ ⟨hHeld, (by (with_reducible repeat (first | refine blk_drewN ?_ _ | refine blk_drew ?_ | refine blk_alloc ?_ _)); exact BK141.out), (by (with_reducible repeat (first | refine blk_drewN ?_ _ | refine blk_drew ?_ | refine blk_alloc ?_ _)); exact BK151.out), GW151.out, GE151.out, NB141_151.out, NB151_141.out, (by repeat (first | (with_reducible first | exact HB.out | apply below_alloc | apply pw_below_drewN | apply below_drew1 | refine below_set ?_ GE141.out | refine below_set ?_ GE151.out) | exact HB.out))⟩)
                      · skip
                        refine box_step ?hg (N := 14) ?hd (cs := #[.int .u64 0, .int .u64 0, .int .u64 0]) (t := 24) ?hr ?_; (case hd => rfl); (case hg => rfl); (case hr => first | (go_simp; done) | (go_simp; rfl))
                        intro gb151 hg w51 hbox hb
                        have n0_ := Aside0.mk (blk_below (g := gb141) (o := .cells #[.int .u64 t143, .int .u64 t144, .int .u64 t145] 24 (0, 0)) (by (with_reducible repeat (first | refine blk_drewN ?_ _ | refine blk_drew ?_ | refine blk_alloc ?_ _)); exact BK141.out) hb)
                        have n1_ := Aside0.mk (below_step (by repeat (first | (with_reducible first | exact HB.out | apply below_alloc | apply pw_below_drewN | apply below_drew1 | refine below_set ?_ GE141.out) | exact HB.out)) hb)
                        have n2_ := Aside0.mk (hbox)
                        have n3_ := Aside0.mk ((by rw [hg]; exact (below_size (by repeat (first | (with_reducible first | exact HB.out | apply below_alloc | apply pw_below_drewN | apply below_drew1 | refine below_set ?_ GE141.out) | exact HB.out))) : w.heap.size ≤ gb151))
                        have n4_ := Aside0.mk ((by rw [hg]; exact (below_size (by repeat (first | (with_reducible first | exact HB.out | apply below_alloc | apply pw_below_drewN | apply below_drew1 | refine below_set ?_ GE141.out) | exact HB.out))) : w.heap.size ≤ gb151))
                        have n5_ := Aside0.mk ((by rw [hg]; exact Nat.ne_of_lt (blk_lt (g := gb141) (o := .cells #[.int .u64 t143, .int .u64 t144, .int .u64 t145] 24 (0, 0)) (by (with_reducible repeat (first | refine blk_drewN ?_ _ | refine blk_drew ?_ | refine blk_alloc ?_ _)); exact BK141.out)) : gb141 ≠ gb151))
                        have n6_ := Aside0.mk ((by rw [hg]; exact Nat.ne_of_gt (blk_lt (g := gb141) (o := .cells #[.int .u64 t143, .int .u64 t144, .int .u64 t145] 24 (0, 0)) (by (with_reducible repeat (first | refine blk_drewN ?_ _ | refine blk_drew ?_ | refine blk_alloc ?_ _)); exact BK141.out)) : gb151 ≠ gb141))
                        clear BK141
                        clear HB
                        have BK141 := n0_
                        have HB := n1_
                        have BK151 := n2_
                        have GW151 := n3_
                        have GE151 := n4_
                        have NB141_151 := n5_
                        have NB151_141 := n6_
                        clear n0_ n1_ n2_ n3_ n4_ n5_ n6_
                        clear hb hbox hg
                        refine hK.out _ _ ⟨(blk_cell BK141.out 0).trans rfl, (blk_cell BK141.out 1).trans rfl, (blk_cell BK141.out 2).trans rfl, ((HB.out.cell (World.block_lt_of_cell? w _ hw146_0)).trans hw146_0)⟩ (fun hHeld => ?_)
                        clear hK K
                        refine norm_ (a' := ?_) ?_ ?_
                        rotate_left
                        · show Act.put _ (some 14) _ = _
                          simp only [Act.put, List.setIfInBounds_toArray, List.set_cons_zero, List.set_cons_succ, i64_w, i32_w]
                          rfl
                        refine one_ (i := 6) (N := some 57) #[true, true, true, true, true, true, true, false, false, false, true, false, false] rfl rfl (one_of HT_.out (by kernel_rfl)) (by decide) (fun K hK => ?_)
                        refine goes_ Try.func9 (by kernel_rfl) rfl #[.agg #[.int .u64 t143, .int .u64 t144, .int .u64 t145], .int .u64 (IntKind.u64.wrap (rd l3 x13_1))] (by rfl) rfl rfl (by (try simp only [List.map_toArray, List.map_cons, List.map_nil]); first | done | rfl | (simp only [List.length_drop, List.length_take]; rfl)) ?_
                        with_reducible refine (pacer_Take.calls t143 t144 t145 (IntKind.u64.wrap (rd l3 x13_1)) t147 t148 t149 false _ A19.out).mono ?_
                        rintro e w52 ⟨rfl, hb⟩
                        refine ⟨_, rfl, ?_⟩
                        have n0_ := Aside0.mk (blk_below (g := gb141) (o := .cells #[.int .u64 t143, .int .u64 t144, .int .u64 t145] 24 (0, 0)) (by (with_reducible repeat (first | refine blk_drewN ?_ _ | refine blk_drew ?_ | refine blk_alloc ?_ _)); exact BK141.out) hb)
                        have n1_ := Aside0.mk (blk_below (g := gb151) (o := .cells #[.int .u64 0, .int .u64 0, .int .u64 0] 24 (0, 0)) (by (with_reducible repeat (first | refine blk_drewN ?_ _ | refine blk_drew ?_ | refine blk_alloc ?_ _)); exact BK151.out) hb)
                        have n2_ := Aside0.mk (below_step (by repeat (first | (with_reducible first | exact HB.out | apply below_alloc | apply pw_below_drewN | apply below_drew1 | refine below_set ?_ GE141.out | refine below_set ?_ GE151.out) | exact HB.out)) hb)
                        clear BK141
                        clear BK151
                        clear HB
                        have BK141 := n0_
                        have BK151 := n1_
                        have HB := n2_
                        clear n0_ n1_ n2_
                        (try clear hb)
                        (try clear hb2)
                        (try clear hk)
                        (try clear hi)
                        refine hK.out _ _ ⟨(blk_cell BK141.out 0).trans rfl, (blk_cell BK141.out 1).trans rfl, (blk_cell BK141.out 2).trans rfl, ((HB.out.cell (World.block_lt_of_cell? w _ hw146_0)).trans hw146_0)⟩ (fun hHeld => ?_)
                        clear hK K
                        refine norm_ (a' := ?_) ?_ ?_
                        rotate_left
                        · show Act.put _ (some 57) _ = _
                          simp only [Act.put, List.setIfInBounds_toArray, List.set_cons_zero, List.set_cons_succ, i64_w, i32_w]
                          rfl
                        refine pure_ (i := 7) (N := some 50) (v := ?_) (a' := ?_) #[true, true, true, true, true, true, true, true, false, false, true, false, false] rfl rfl (any_of HT_.out (by kernel_rfl)) (fun _ _ _ h => h) (Or.inl ⟨by rfl, ?_⟩) ?_ ?_
                        rotate_left
                        · intro w'
                          go_simp
                          with_reducible rfl
                        rotate_left
                        · simp only [Act.put, List.setIfInBounds_toArray, List.set_cons_zero, List.set_cons_succ, i64_w, i32_w]
                          rfl
                        refine pure_ (i := 8) (N := some 58) (v := ?_) (a' := ?_) #[true, true, true, true, true, true, true, true, true, false, true, false, false] rfl rfl (any_of HT_.out (by kernel_rfl)) (fun _ _ _ h => h) (Or.inl ⟨by rfl, ?_⟩) ?_ ?_
                        rotate_left
                        · intro w'
                          go_simp
                          with_reducible rfl
                        rotate_left
                        · simp only [Act.put, List.setIfInBounds_toArray, List.set_cons_zero, List.set_cons_succ, i64_w, i32_w]
                          rfl
                        refine pure_ (i := 9) (N := some 59) (v := ?_) (a' := ?_) #[true, true, true, true, true, true, true, true, true, true, true, false, false] rfl rfl (any_of HT_.out (by kernel_rfl)) (fun _ _ _ h => h) (Or.inl ⟨by rfl, ?_⟩) ?_ ?_
                        rotate_left
                        · intro w'
                          go_simp
                          with_reducible rfl
                        rotate_left
                        · simp only [Act.put, List.setIfInBounds_toArray, List.set_cons_zero, List.set_cons_succ, i64_w, i32_w]
                          rfl
                        exact norm_ (by simp only [putAll, Act.put, List.setIfInBounds_toArray, List.set_cons_zero, List.set_cons_succ]) (hCont (gb151) _ ⟨hHeld, (by (with_reducible repeat (first | refine blk_drewN ?_ _ | refine blk_drew ?_ | refine blk_alloc ?_ _)); exact BK141.out), (by (with_reducible repeat (first | refine blk_drewN ?_ _ | refine blk_drew ?_ | refine blk_alloc ?_ _)); exact BK151.out), GW151.out, GE151.out, NB141_151.out, NB151_141.out, (by repeat (first | (with_reducible first | exact HB.out | apply below_alloc | apply pw_below_drewN | apply below_drew1 | refine below_set ?_ GE141.out | refine below_set ?_ GE151.out) | exact HB.out))⟩)
                    rintro gb151 w53 ⟨hS_, h0_, h1_, h2_, h3_, h4_, h5_, h6_⟩
                    have n0_ : Aside0 (w53.heap[gb141]? = some (.cells #[.int .u64 t143, .int .u64 t144, .int .u64 t145] 24 (0, 0))) := ⟨h0_⟩
                    have n1_ : Aside0 (w53.heap[gb151]? = some (.cells #[.int .u64 0, .int .u64 0, .int .u64 0] 24 (0, 0))) := ⟨h1_⟩
                    have n2_ : Aside0 (w.heap.size ≤ gb151) := ⟨h2_⟩
                    have n3_ : Aside0 (w.heap.size ≤ gb151) := ⟨h3_⟩
                    have n4_ : Aside0 (gb141 ≠ gb151) := ⟨h4_⟩
                    have n5_ : Aside0 (gb151 ≠ gb141) := ⟨h5_⟩
                    have n6_ : Aside0 (Below w.heap.size w w53) := ⟨h6_⟩
                    clear BK141
                    clear HB
                    clear h0_ h1_ h2_ h3_ h4_ h5_ h6_
                    have BK141 := n0_
                    have BK151 := n1_
                    have GW151 := n2_
                    have GE151 := n3_
                    have NB141_151 := n4_
                    have NB151_141 := n5_
                    have HB := n6_
                    clear n0_ n1_ n2_ n3_ n4_ n5_ n6_
                    have hHeld : w53.cell? ⟨gb141, 0, none⟩ = some (.int .u64 t143) ∧ w53.cell? ⟨gb141, 1, none⟩ = some (.int .u64 t144) ∧ w53.cell? ⟨gb141, 2, none⟩ = some (.int .u64 t145) ∧ w53.cell? (ad146.add (x13_1).toNat) = some (.int .u16 (rd l3 x13_1)) := hS_
                    refine norm_ (a' := ?_) ?_ ?_
                    rotate_left
                    · simp only [putAll, Act.put, List.setIfInBounds_toArray, List.set_cons_zero, List.set_cons_succ]
                      rfl
                    refine one_ (i := 11) (N := none) #[true, true, true, true, true, true, true, true, true, true, true, true, false] rfl rfl (one_of HT_.out (by kernel_rfl)) (by decide) (fun K hK => ?_)
                    have hs54 : w53.cell? ⟨gb151, 0, none⟩ = some (.int .u64 0) := (blk_cell BK151.out 0).trans rfl
                    have hfs54 := blk_frozen BK151.out 0
                    have hns54_0 := NB141_151.out
                    have hms54_0 := NB151_141.out
                    have hs55 : w53.cell? ⟨gb151, 1, none⟩ = some (.int .u64 0) := (blk_cell BK151.out 1).trans rfl
                    have hfs55 := blk_frozen BK151.out 1
                    have hns55_0 := NB141_151.out
                    have hms55_0 := NB151_141.out
                    have hs56 : w53.cell? ⟨gb151, 2, none⟩ = some (.int .u64 0) := (blk_cell BK151.out 2).trans rfl
                    have hfs56 := blk_frozen BK151.out 2
                    have hns56_0 := NB141_151.out
                    have hms56_0 := NB151_141.out
                    refine skip_ (w1 := ?_) (by rfl) rfl ?_ ?_
                    rotate_left
                    · go_simp
                      rfl
                    refine hK.out _ _ ⟨((cell_far (p := ⟨gb151, _, none⟩) NB141_151.out _).trans (((cell_far (p := ⟨gb151, _, none⟩) NB141_151.out _).trans (((cell_far (p := ⟨gb151, _, none⟩) NB141_151.out _).trans (hHeld.1)))))), ((cell_far (p := ⟨gb151, _, none⟩) NB141_151.out _).trans (((cell_far (p := ⟨gb151, _, none⟩) NB141_151.out _).trans (((cell_far (p := ⟨gb151, _, none⟩) NB141_151.out _).trans (hHeld.2.1)))))), ((cell_far (p := ⟨gb151, _, none⟩) NB141_151.out _).trans (((cell_far (p := ⟨gb151, _, none⟩) NB141_151.out _).trans (((cell_far (p := ⟨gb151, _, none⟩) NB141_151.out _).trans (hHeld.2.2.1)))))), ((cell_far (p := ⟨gb151, _, none⟩) (by first | exact Nat.ne_of_lt (Nat.lt_of_lt_of_le (by have := World.block_lt_of_cell? _ _ hw146_0; first | rwa [add_block] at this | exact this) GW151.out) | (rw [add_block]; exact Nat.ne_of_lt (Nat.lt_of_lt_of_le (by have := World.block_lt_of_cell? _ _ hw146_0; first | rwa [add_block] at this | exact this) GW151.out)) | (show (Addr.add _ _).block ≠ _; rw [add_block]; exact Nat.ne_of_lt (Nat.lt_of_lt_of_le (by have := World.block_lt_of_cell? _ _ hw146_0; first | rwa [add_block] at this | exact this) GW151.out)) | (dsimp only; exact Nat.ne_of_lt (Nat.lt_of_lt_of_le (by have := World.block_lt_of_cell? _ _ hw146_0; first | rwa [add_block] at this | exact this) GW151.out))) _).trans (((cell_far (p := ⟨gb151, _, none⟩) (by first | exact Nat.ne_of_lt (Nat.lt_of_lt_of_le (by have := World.block_lt_of_cell? _ _ hw146_0; first | rwa [add_block] at this | exact this) GW151.out) | (rw [add_block]; exact Nat.ne_of_lt (Nat.lt_of_lt_of_le (by have := World.block_lt_of_cell? _ _ hw146_0; first | rwa [add_block] at this | exact this) GW151.out)) | (show (Addr.add _ _).block ≠ _; rw [add_block]; exact Nat.ne_of_lt (Nat.lt_of_lt_of_le (by have := World.block_lt_of_cell? _ _ hw146_0; first | rwa [add_block] at this | exact this) GW151.out)) | (dsimp only; exact Nat.ne_of_lt (Nat.lt_of_lt_of_le (by have := World.block_lt_of_cell? _ _ hw146_0; first | rwa [add_block] at this | exact this) GW151.out))) _).trans (((cell_far (p := ⟨gb151, _, none⟩) (by first | exact Nat.ne_of_lt (Nat.lt_of_lt_of_le (by have := World.block_lt_of_cell? _ _ hw146_0; first | rwa [add_block] at this | exact this) GW151.out) | (rw [add_block]; exact Nat.ne_of_lt (Nat.lt_of_lt_of_le (by have := World.block_lt_of_cell? _ _ hw146_0; first | rwa [add_block] at this | exact this) GW151.out)) | (show (Addr.add _ _).block ≠ _; rw [add_block]; exact Nat.ne_of_lt (Nat.lt_of_lt_of_le (by have := World.block_lt_of_cell? _ _ hw146_0; first | rwa [add_block] at this | exact this) GW151.out)) | (dsimp only; exact Nat.ne_of_lt (Nat.lt_of_lt_of_le (by have := World.block_lt_of_cell? _ _ hw146_0; first | rwa [add_block] at this | exact this) GW151.out))) _).trans (hHeld.2.2.2))))))⟩ (fun hHeld => ?_)
                    clear hK K
                    refine pure_ (i := 12) (N := some 15) (v := ?_) (a' := ?_) #[true, true, true, true, true, true, true, true, true, true, true, true, true] rfl rfl (any_of HT_.out (by kernel_rfl)) (fun _ _ _ h => h) (Or.inl ⟨by rfl, ?_⟩) ?_ ?_
                    rotate_left
                    · intro w'
                      go_simp
                      with_reducible rfl
                    rotate_left
                    · simp only [Act.put, List.setIfInBounds_toArray, List.set_cons_zero, List.set_cons_succ, i64_w, i32_w]
                      rfl
                    refine done_ (done_of HT_.out (by kernel_rfl)) ?_
                    have hnb57 := NB151_141.out
                    have hnc57 := NB141_151.out
                    have hcz58_0 : w53.cell? ⟨gb151, 0, none⟩ = some (.int .u64 0) := (blk_cell BK151.out 0).trans rfl
                    have hcz58_1 : w53.cell? ⟨gb151, 1, none⟩ = some (.int .u64 0) := (blk_cell BK151.out 1).trans rfl
                    have hcz58_2 : w53.cell? ⟨gb151, 2, none⟩ = some (.int .u64 0) := (blk_cell BK151.out 2).trans rfl
                    have hfz58_0 := blk_frozen BK151.out 0
                    have hfz58_1 := blk_frozen BK151.out 1
                    have hfz58_2 := blk_frozen BK151.out 2
                    have hcz59_0 : w53.cell? ⟨gb141, 0, none⟩ = some (.int .u64 t143) := (blk_cell BK141.out 0).trans rfl
                    have hcz59_1 : w53.cell? ⟨gb141, 1, none⟩ = some (.int .u64 t144) := (blk_cell BK141.out 1).trans rfl
                    have hcz59_2 : w53.cell? ⟨gb141, 2, none⟩ = some (.int .u64 t145) := (blk_cell BK141.out 2).trans rfl
                    have hfz59_0 := blk_frozen BK141.out 0
                    have hfz59_1 := blk_frozen BK141.out 1
                    have hfz59_2 := blk_frozen BK141.out 2
                    go_upto_region 14 with (fail)
                    (try simp only [Act.put, List.setIfInBounds_toArray, List.set_cons_zero, List.set_cons_succ])
                    have H := HS45.out
                    clear HS45
                    by_cases c60 : x12_1 > (IntKind.u64.wrap ((IntKind.u64.wrap (a0)) + (IntKind.u64.wrap (Int.tdiv (IntKind.u64.wrap ((IntKind.u64.wrap (a1)) * (IntKind.u64.wrap (x11_1 + (IntKind.u64.wrap (rd l2 x13_1)))))) 1000))))
                    · rw [if_pos c60] at H
                      have c60b0 : decide ((IntKind.u64.wrap ((IntKind.u64.wrap (a0)) + (IntKind.u64.wrap (Int.tdiv (IntKind.u64.wrap ((IntKind.u64.wrap (a1)) * (IntKind.u64.wrap (x11_1 + (IntKind.u64.wrap (rd l2 x13_1)))))) 1000)))) < x12_1) = true := decide_eq_true c60
                      clear c60
                      obtain rfl := Option.some.inj H
                      go_wp2
                      go_ret
                      exact ⟨by first | rfl | (simp [errW_none, errW_some] <;> rfl) | (simp [*, errW_none, errW_some] <;> rfl), by repeat (first | (with_reducible first | exact HB.out | apply below_alloc | apply pw_below_drewN | apply below_drew1 | refine below_set ?_ GE141.out | refine below_set ?_ GE151.out) | exact HB.out)⟩
                    · rw [if_neg c60] at H
                      have c60b0 : decide ((IntKind.u64.wrap ((IntKind.u64.wrap (a0)) + (IntKind.u64.wrap (Int.tdiv (IntKind.u64.wrap ((IntKind.u64.wrap (a1)) * (IntKind.u64.wrap (x11_1 + (IntKind.u64.wrap (rd l2 x13_1)))))) 1000)))) < x12_1) = false := decide_eq_false c60
                      clear c60
                      by_cases c61 : t148 > (IntKind.u64.wrap (a0))
                      · rw [if_pos c61] at H
                        have c61b0 : decide ((IntKind.u64.wrap (a0)) < t148) = true := decide_eq_true c61
                        clear c61
                        obtain rfl := Option.some.inj H
                        have hnb62 := NB141_151.out
                        have hnc62 := NB151_141.out
                        have hcz63_0 : w53.cell? ⟨gb141, 0, none⟩ = some (.int .u64 t143) := (blk_cell BK141.out 0).trans rfl
                        have hcz63_1 : w53.cell? ⟨gb141, 1, none⟩ = some (.int .u64 t144) := (blk_cell BK141.out 1).trans rfl
                        have hcz63_2 : w53.cell? ⟨gb141, 2, none⟩ = some (.int .u64 t145) := (blk_cell BK141.out 2).trans rfl
                        have hfz63_0 := blk_frozen BK141.out 0
                        have hfz63_1 := blk_frozen BK141.out 1
                        have hfz63_2 := blk_frozen BK141.out 2
                        go_wp2
                        go_ret
                        exact ⟨by first | rfl | (simp [errW_none, errW_some] <;> rfl) | (simp [*, errW_none, errW_some] <;> rfl), by repeat (first | (with_reducible first | exact HB.out | apply below_alloc | apply pw_below_drewN | apply below_drew1 | refine below_set ?_ GE141.out | refine below_set ?_ GE151.out) | exact HB.out)⟩
                      · rw [if_neg c61] at H
                        have c61b0 : decide ((IntKind.u64.wrap (a0)) < t148) = false := decide_eq_false c61
                        clear c61
                        by_cases c64 : t149 > 999
                        · rw [if_pos c64] at H
                          have c64b0 : decide (999 < t149) = true := decide_eq_true c64
                          clear c64
                          obtain rfl := Option.some.inj H
                          have hnb65 := NB141_151.out
                          have hnc65 := NB151_141.out
                          have hcz66_0 : w53.cell? ⟨gb141, 0, none⟩ = some (.int .u64 t143) := (blk_cell BK141.out 0).trans rfl
                          have hcz66_1 : w53.cell? ⟨gb141, 1, none⟩ = some (.int .u64 t144) := (blk_cell BK141.out 1).trans rfl
                          have hcz66_2 : w53.cell? ⟨gb141, 2, none⟩ = some (.int .u64 t145) := (blk_cell BK141.out 2).trans rfl
                          have hfz66_0 := blk_frozen BK141.out 0
                          have hfz66_1 := blk_frozen BK141.out 1
                          have hfz66_2 := blk_frozen BK141.out 2
                          go_wp2
                          go_ret
                          exact ⟨by first | rfl | (simp [errW_none, errW_some] <;> rfl) | (simp [*, errW_none, errW_some] <;> rfl), by repeat (first | (with_reducible first | exact HB.out | apply below_alloc | apply pw_below_drewN | apply below_drew1 | refine below_set ?_ GE141.out | refine below_set ?_ GE151.out) | exact HB.out)⟩
                        · rw [if_neg c64] at H
                          have c64b0 : decide (999 < t149) = false := decide_eq_false c64
                          clear c64
                          have H' := Aside0.mk H
                          clear H
                          have hnb67 := NB141_151.out
                          have hnc67 := NB151_141.out
                          have hcz68_0 : w53.cell? ⟨gb141, 0, none⟩ = some (.int .u64 t143) := (blk_cell BK141.out 0).trans rfl
                          have hcz68_1 : w53.cell? ⟨gb141, 1, none⟩ = some (.int .u64 t144) := (blk_cell BK141.out 1).trans rfl
                          have hcz68_2 : w53.cell? ⟨gb141, 2, none⟩ = some (.int .u64 t145) := (blk_cell BK141.out 2).trans rfl
                          have hfz68_0 := blk_frozen BK141.out 0
                          have hfz68_1 := blk_frozen BK141.out 1
                          have hfz68_2 := blk_frozen BK141.out 2
                          go_wp2
                          go_roundg kj10
                          case measure => have := HK1.out; have := HJ10.out; omega
                          case rel => exact ⟨(IntKind.u64.wrap (x11_1 + (IntKind.u64.wrap (rd l2 x13_1)))), (x12_1), (wrap64 (x13_1 + 1)), (t147), (t148), (t149), (by first | rfl | (simp; done) | (simp [*]; done)), (by first | rfl | (simp; done) | (simp [*]; done)), (by first | rfl | (simp; done) | (simp [*]; done)), H', ⟨by have := HK1.out; have := HJ10.out; omega⟩, ⟨by (with_reducible repeat (first | refine blk_drewN ?_ _ | refine blk_drew ?_ | refine blk_alloc ?_ _)); refine blk_put (cs := #[.int .u64 t147, .int .u64 t148, .int .u64 t145]) ?_ 2 _ rfl; (with_reducible repeat (first | refine blk_drewN ?_ _ | refine blk_drew ?_ | refine blk_alloc ?_ _)); refine blk_put (cs := #[.int .u64 t147, .int .u64 t144, .int .u64 t145]) ?_ 1 _ rfl; (with_reducible repeat (first | refine blk_drewN ?_ _ | refine blk_drew ?_ | refine blk_alloc ?_ _)); refine blk_put (cs := #[.int .u64 t143, .int .u64 t144, .int .u64 t145]) ?_ 0 _ rfl; (with_reducible repeat (first | refine blk_drewN ?_ _ | refine blk_drew ?_ | refine blk_alloc ?_ _)); refine blk_far ?_ NB141_151.out _; (with_reducible repeat (first | refine blk_drewN ?_ _ | refine blk_drew ?_ | refine blk_alloc ?_ _)); refine blk_far ?_ NB141_151.out _; (with_reducible repeat (first | refine blk_drewN ?_ _ | refine blk_drew ?_ | refine blk_alloc ?_ _)); refine blk_far ?_ NB141_151.out _; (with_reducible repeat (first | refine blk_drewN ?_ _ | refine blk_drew ?_ | refine blk_alloc ?_ _)); exact BK141.out⟩, ⟨by repeat (first | (with_reducible first | exact HB.out | apply below_alloc | apply pw_below_drewN | apply below_drew1 | refine below_set ?_ GE141.out | refine below_set ?_ GE151.out) | exact HB.out)⟩⟩
                · rw [if_neg c18] at H
                  exact absurd H (by simp)
              · rw [if_neg c16] at H
                exact absurd H (by simp)
            · rw [if_neg c15] at H
              exact absurd H (by simp)
          · replace c14 := Bool.eq_false_iff.mpr c14
            subst c14
            have H1 : (some t137) = some r := by rw [if_neg (show ¬ (false = true) by decide)] at H; exact H
            clear H
            have H := H1
            clear H1
            obtain rfl := Option.some.inj H
            go_wp2
            go_ret
            exact ⟨by first | rfl | (simp [errW_none, errW_some] <;> rfl) | (simp [*, errW_none, errW_some] <;> rfl), by repeat (first | (with_reducible first | exact HB.out | apply below_alloc | apply pw_below_drewN | apply below_drew1 | refine below_set ?_ GE141.out) | exact HB.out)⟩

/-- THE ONE PURE STATEMENT of wigwaglaw16_PacerBounds: yours. -/
def wigwaglaw16_PacerBounds.Pure : Prop := ∀ (a0 : Int) (a1 : Int) (l2 : List Int) (l3 : List Int), (Lit.int .u32 a0).wf = true → (Lit.int .u32 a1).wf = true → l2.length ≤ maxLen → l2.length * 2 ≤ 140737488351232 → (∀ x ∈ l2, (Lit.int .u16 x).wf = true) → l3.length ≤ maxLen → l3.length * 2 ≤ 140737488351232 → (∀ x ∈ l3, (Lit.int .u16 x).wf = true) → ∃ k, wigwaglaw16_PacerBounds.f k a0 a1 l2 l3 = some true
theorem wigwaglaw16_PacerBounds.walk (P : wigwaglaw16_PacerBounds.Pure) (a0 : Int) (a1 : Int) (a2 : Option Addr) (len2 cap2 : Nat) (z2 : List Int) (a3 : Option Addr) (len3 cap3 : Nat) (z3 : List Int) (w : World) (w0 : (Lit.int .u32 a0).wf = true) (w1 : (Lit.int .u32 a1).wf = true) (w2 : (a2 = none ∧ len2 = 0 ∧ cap2 = 0 ∧ z2 = []) ∨ ∃ x, a2 = some x ∧ len2 ≤ cap2 ∧ cap2 ≤ maxLen ∧ z2.length = cap2 ∧ (∀ i, i < z2.length → w.cell? (x.add i) = some (.int .u16 (z2.getD i 0))) ∧ ∀ n ∈ z2, (Lit.int .u16 n).wf = true) (y2 : len2 * 2 ≤ 140737488351232) (w3 : (a3 = none ∧ len3 = 0 ∧ cap3 = 0 ∧ z3 = []) ∨ ∃ x, a3 = some x ∧ len3 ≤ cap3 ∧ cap3 ≤ maxLen ∧ z3.length = cap3 ∧ (∀ i, i < z3.length → w.cell? (x.add i) = some (.int .u16 (z3.getD i 0))) ∧ ∀ n ∈ z3, (Lit.int .u16 n).wf = true) (y3 : len3 * 2 ≤ 140737488351232) :
    Calls Try.prog 4 #[.int .u32 a0, .int .u32 a1, .slice a2 len2 cap2, .slice a3 len3 cap3] w fun e w' => e = .returned (.bool true) ∧ Below w.heap.size w w' := by
  obtain ⟨l2, rfl, hr2, hm2, hw2, hc2⟩ := ReadsInt.ofRowC w2
  obtain ⟨l3, rfl, hr3, hm3, hw3, hc3⟩ := ReadsInt.ofRowC w3
  obtain ⟨k, h⟩ := P a0 a1 l2 l3 w0 w1 hm2 y2 hw2 hm3 y3 hw3
  refine (wigwaglaw16_PacerBounds.calls k a0 a1 _ _ l2 _ _ l3 true w (Kd.C_of_reads (d := (0 : Int)) (h1 := fun _ => rfl) hr2) hc2 (Kd.C_of_reads (d := (0 : Int)) (h1 := fun _ => rfl) hr3) hc3 h).mono ?_
  rintro e w' ⟨rfl, hd⟩
  exact ⟨rfl, hd⟩

end Go.Proofs.Ytiekeofcfpnlkaa.P
