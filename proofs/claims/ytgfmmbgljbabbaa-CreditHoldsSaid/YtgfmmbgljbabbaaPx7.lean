-- Printed for this claim by xprint.py of this session: contracts of this session's own stand in for what the print does not take
import Derived.Test.YtgfmmbgljbabbaaPx0
import Derived.Test.YtgfmmbgljbabbaaPx3
import Derived.Test.YtgfmmbgljbabbaaPx5
import Derived.Test.YtgfmmbgljbabbaaPx6
namespace Go.Proofs.Ytgfmmbgljbabbaa.P
open Go.RowKit Go.Proofs.YtgfmmbgljbabbaaW.PrintWords Go.Proofs.YtgfmmbgljbabbaaW.PrintLast Go.Proofs.YtgfmmbgljbabbaaW.PrintMore
attribute [local go_sem] max2_int min2_int max_two min_two max_three min_three max_four min_four   -- for this text's walks alone
set_option linter.unusedVariables false
set_option linter.unusedSimpArgs false

/-! ### wigwaglaw19_CreditHolds: function 5 -/
mutual
def wigwaglaw19_CreditHolds.l0 : Nat → List (S41) → Bool → Int → Int → Int → Int → Int → Option (Bool)
  | 0, _, _, _, _, _, _, _ => none
  | k + 1, x1, x5, x7, x8, x9, x166000, x166001 => if x9 < (x1.length : Int) then (wigwaglaw19_CreditHolds.j1 k x1 x5 x7 x8 x9 (decide (x9 < 200)) x166000 x166001) else (wigwaglaw19_CreditHolds.j1 k x1 x5 x7 x8 x9 false x166000 x166001)
def wigwaglaw19_CreditHolds.j1 : Nat → List (S41) → Bool → Int → Int → Int → Bool → Int → Int → Option (Bool)
  | 0, _, _, _, _, _, _, _, _ => none
  | k + 1, x1, x5, x7, x8, x9, x23, x166000, x166001 => if x23 = true then (if 0 ≤ x9 then (if x9 < (x1.length : Int) then (if ((rd_T41 x1 x9).f0) = 1 then ((credit_Use.f x166000 x166001 ((rd_T41 x1 x9).f1)).bind fun bt168 => (if (bt168.2.2 != (decide (((rd_T41 x1 x9).f1) ≤ (IntKind.u64.wrap (x7 - x8))))) = true then (some false) else (if bt168.2.2 = true then (wigwaglaw19_CreditHolds.j2 k x1 x5 x7 (IntKind.u64.wrap (x8 + ((rd_T41 x1 x9).f1))) x9 bt168.1 bt168.2.1) else (wigwaglaw19_CreditHolds.j2 k x1 x5 x7 x8 x9 bt168.1 bt168.2.1)))) else (if ((rd_T41 x1 x9).f0) = 2 then ((credit_Raise.f x166000 x166001 ((rd_T41 x1 x9).f1)).bind fun bt175 => (wigwaglaw19_CreditHolds.j2 k x1 x5 (mx x7 ((rd_T41 x1 x9).f1)) x8 x9 bt175.1 bt175.2)) else (wigwaglaw19_CreditHolds.j2 k x1 x5 x7 x8 x9 x166000 x166001))) else (none)) else (none)) else (some x5)
def wigwaglaw19_CreditHolds.j2 : Nat → List (S41) → Bool → Int → Int → Int → Int → Int → Option (Bool)
  | 0, _, _, _, _, _, _, _ => none
  | k + 1, x1, x5, x7, x8, x9, x166000, x166001 => if x166001 = x8 then (if x166000 = x7 then (if x8 > x7 then (some false) else ((credit_Left.f x166000 x166001).bind fun t178 => (if t178 = (IntKind.u64.wrap (x7 - x8)) then (wigwaglaw19_CreditHolds.l0 k x1 x5 x7 x8 (wrap64 (x9 + 1)) x166000 x166001) else (some false)))) else (some false)) else (some false)
end
def wigwaglaw19_CreditHolds.f (k : Nat) (a0 : Int) (l1 : List (S41)) : Option (Bool) := (wigwaglaw19_awake.f).bind fun t164 => (wigwaglaw19_CreditHolds.l0 k l1 t164 a0 0 0 a0 0)
theorem wigwaglaw19_CreditHolds.mono_l : ∀ k, (∀ y0 y1 y2 y3 y4 y5 y6, LeO (wigwaglaw19_CreditHolds.l0 k y0 y1 y2 y3 y4 y5 y6) (wigwaglaw19_CreditHolds.l0 (k + 1) y0 y1 y2 y3 y4 y5 y6)) ∧ (∀ y0 y1 y2 y3 y4 y5 y6 y7, LeO (wigwaglaw19_CreditHolds.j1 k y0 y1 y2 y3 y4 y5 y6 y7) (wigwaglaw19_CreditHolds.j1 (k + 1) y0 y1 y2 y3 y4 y5 y6 y7)) ∧ (∀ y0 y1 y2 y3 y4 y5 y6, LeO (wigwaglaw19_CreditHolds.j2 k y0 y1 y2 y3 y4 y5 y6) (wigwaglaw19_CreditHolds.j2 (k + 1) y0 y1 y2 y3 y4 y5 y6))
  | 0 => ⟨fun _ _ _ _ _ _ _ r h => by simp [wigwaglaw19_CreditHolds.l0] at h, fun _ _ _ _ _ _ _ _ r h => by simp [wigwaglaw19_CreditHolds.j1] at h, fun _ _ _ _ _ _ _ r h => by simp [wigwaglaw19_CreditHolds.j2] at h⟩
  | k + 1 => by
    obtain ⟨ih0, ih1, ih2⟩ := wigwaglaw19_CreditHolds.mono_l k
    refine ⟨?_, ?_, ?_⟩
    · intro y0 y1 y2 y3 y4 y5 y6
      unfold wigwaglaw19_CreditHolds.l0
      repeat' first
      | (with_reducible exact ih0 _ _ _ _ _ _ _)
      | (with_reducible exact ih1 _ _ _ _ _ _ _ _)
      | (with_reducible exact ih2 _ _ _ _ _ _ _)
      | (with_reducible exact LeO.refl _)
      | (with_reducible exact LeO.none _)
      | (with_reducible refine LeO.ite ?_ ?_)
      | (with_reducible refine LeO.bind ?_ (fun _ => ?_))
      | exact ih0 _ _ _ _ _ _ _
      | exact ih1 _ _ _ _ _ _ _ _
      | exact ih2 _ _ _ _ _ _ _
      | exact LeO.none _
      | refine LeO.ite ?_ ?_
      | refine LeO.bind ?_ (fun _ => ?_)
    · intro y0 y1 y2 y3 y4 y5 y6 y7
      unfold wigwaglaw19_CreditHolds.j1
      repeat' first
      | (with_reducible exact ih0 _ _ _ _ _ _ _)
      | (with_reducible exact ih1 _ _ _ _ _ _ _ _)
      | (with_reducible exact ih2 _ _ _ _ _ _ _)
      | (with_reducible exact LeO.refl _)
      | (with_reducible exact LeO.none _)
      | (with_reducible refine LeO.ite ?_ ?_)
      | (with_reducible refine LeO.bind ?_ (fun _ => ?_))
      | exact ih0 _ _ _ _ _ _ _
      | exact ih1 _ _ _ _ _ _ _ _
      | exact ih2 _ _ _ _ _ _ _
      | exact LeO.none _
      | refine LeO.ite ?_ ?_
      | refine LeO.bind ?_ (fun _ => ?_)
    · intro y0 y1 y2 y3 y4 y5 y6
      unfold wigwaglaw19_CreditHolds.j2
      repeat' first
      | (with_reducible exact ih0 _ _ _ _ _ _ _)
      | (with_reducible exact ih1 _ _ _ _ _ _ _ _)
      | (with_reducible exact ih2 _ _ _ _ _ _ _)
      | (with_reducible exact LeO.refl _)
      | (with_reducible exact LeO.none _)
      | (with_reducible refine LeO.ite ?_ ?_)
      | (with_reducible refine LeO.bind ?_ (fun _ => ?_))
      | exact ih0 _ _ _ _ _ _ _
      | exact ih1 _ _ _ _ _ _ _ _
      | exact ih2 _ _ _ _ _ _ _
      | exact LeO.none _
      | refine LeO.ite ?_ ?_
      | refine LeO.bind ?_ (fun _ => ?_)
theorem wigwaglaw19_CreditHolds.mono : ∀ a0 a1 k, LeO (wigwaglaw19_CreditHolds.f k a0 a1) (wigwaglaw19_CreditHolds.f (k + 1) a0 a1) := by
  intro a0 a1 k
  obtain ⟨ih0, ih1, ih2⟩ := wigwaglaw19_CreditHolds.mono_l k
  unfold wigwaglaw19_CreditHolds.f
  repeat' first
      | (with_reducible exact ih0 _ _ _ _ _ _ _)
      | (with_reducible exact ih1 _ _ _ _ _ _ _ _)
      | (with_reducible exact ih2 _ _ _ _ _ _ _)
      | (with_reducible exact LeO.refl _)
      | (with_reducible exact LeO.none _)
      | (with_reducible refine LeO.ite ?_ ?_)
      | (with_reducible refine LeO.bind ?_ (fun _ => ?_))
      | exact ih0 _ _ _ _ _ _ _
      | exact ih1 _ _ _ _ _ _ _ _
      | exact ih2 _ _ _ _ _ _ _
      | exact LeO.none _
      | refine LeO.ite ?_ ?_
      | refine LeO.bind ?_ (fun _ => ?_)
def wigwaglaw19_CreditHolds.T10 : Bool × List (List Nat × List Nat) := (true, [([], []), ([], []), ([], []), ([1, 2], [1, 2]), ([3], [3]), ([4], [4]), ([0, 5], [0, 5]), ([6], [6]), ([7], [7]), ([7], [7]), ([], []), ([10, 8, 6, 0, 1, 2, 3, 4, 5, 6, 7, 8, 10], [8, 10]), ([9, 11, 0, 1, 2, 3, 4, 5, 6, 7, 8, 9, 10, 11], [9])])
def wigwaglaw19_CreditHolds.B10 : List Nat := [0, 0, 0, 6, 14, 30, 63, 127, 255, 255, 0, 1535, 4095]
theorem wigwaglaw19_CreditHolds.tab10 : rtab .any (opsOf Try.f5 10) = wigwaglaw19_CreditHolds.T10 := by kernel_rfl
theorem wigwaglaw19_CreditHolds.bits10 : waitsOk wigwaglaw19_CreditHolds.T10.2 wigwaglaw19_CreditHolds.B10 = true := by kernel_rfl
def wigwaglaw19_CreditHolds.T17 : Bool × List (List Nat × List Nat) := (true, [([], []), ([], []), ([], []), ([1, 2], [1, 2]), ([3], [3]), ([4], [4]), ([0, 5], [0, 5]), ([6, 6, 0, 1, 2, 3, 4, 5, 6], [6])])
def wigwaglaw19_CreditHolds.B17 : List Nat := [0, 0, 0, 6, 14, 30, 63, 127]
theorem wigwaglaw19_CreditHolds.tab17 : rtab .any (opsOf Try.f5 17) = wigwaglaw19_CreditHolds.T17 := by kernel_rfl
theorem wigwaglaw19_CreditHolds.bits17 : waitsOk wigwaglaw19_CreditHolds.T17.2 wigwaglaw19_CreditHolds.B17 = true := by kernel_rfl
set_option maxHeartbeats 8000000 in
set_option maxRecDepth 100000 in
theorem wigwaglaw19_CreditHolds.calls (k : Nat) (a0 : Int) (A1 : Option Addr) (c1 : Nat) (l1 : List (S41)) (r : Bool) (w : World) (hr1 : Kd.C k41 w A1 l1.length l1) (hc1 : l1.length ≤ c1) (h : wigwaglaw19_CreditHolds.f k a0 l1 = some r) :
    Calls Try.prog 5 #[.int .u64 a0, .slice A1 l1.length c1] w fun e w' => e = .returned (.bool r) ∧ Below w.heap.size w w' := by
  have hu25 := Try.underlying25
  have HR1 := Aside0.mk hr1
  have HC1 := Aside0.mk hc1
  clear hr1 hc1
  have HB := Aside0.mk (Below.refl w.heap.size w)
  have H : ((wigwaglaw19_awake.f).bind fun t164 => (wigwaglaw19_CreditHolds.l0 k l1 t164 a0 0 0 a0 0)) = some r := h
  clear h
  replace H := Option.bind_eq_some_iff.mp H
  obtain ⟨t164, A30, H⟩ := H
  replace H : (wigwaglaw19_CreditHolds.l0 k l1 t164 a0 0 0 a0 0) = some r := H
  have A3 := Aside0.mk A30
  clear A30
  have H' := Aside0.mk H
  clear H
  go_enter Try.func5, Try.ntmps5
  go_wp2_with (first | ((with_reducible refine gate_callee (f := 9) rfl ?_); refine goesL_ (some 12) rfl rfl Try.func9 (by kernel_rfl) rfl #[] rfl (by (try simp only [List.map_toArray, List.map_cons, List.map_nil]); first | done | rfl | (simp only [List.length_drop, List.length_take]; rfl)) ?_; (with_reducible refine (wigwaglaw19_awake.calls  t164 _ A3.out).mono ?_); rintro e w4 ⟨rfl, hb⟩; refine ⟨_, rfl, ?_⟩; have n0_ := Aside0.mk (below_step (by repeat (first | (with_reducible first | exact HB.out | apply below_alloc | apply pw_below_drewN | apply below_drew1) | exact HB.out)) hb); clear HB; have HB := n0_; clear n0_; (try clear hb); (try clear hb2); (try clear hk); (try clear hi)) | ((with_reducible refine gate_dst (N := 6) rfl ?_); refine box_event ?hg (N := 6) ?hd (cs := #[.int .u64 0, .int .u64 0]) (t := 25) ?hr ?_; (case hd => rfl); (case hg => rfl); (case hr => first | (go_simp; done) | (go_simp; rfl)); intro gb165 hg w5 hbox hb; have n0_ := Aside0.mk (below_step (by repeat (first | (with_reducible first | exact HB.out | apply below_alloc | apply pw_below_drewN | apply below_drew1) | exact HB.out)) hb); have n1_ := Aside0.mk (hbox); have n2_ := Aside0.mk ((by rw [hg]; exact (below_size (by repeat (first | (with_reducible first | exact HB.out | apply below_alloc | apply pw_below_drewN | apply below_drew1) | exact HB.out))) : w.heap.size ≤ gb165)); have n3_ := Aside0.mk ((by rw [hg]; exact (below_size (by repeat (first | (with_reducible first | exact HB.out | apply below_alloc | apply pw_below_drewN | apply below_drew1) | exact HB.out))) : w.heap.size ≤ gb165)); clear HB; have HB := n0_; have BK165 := n1_; have GW165 := n2_; have GE165 := n3_; clear n0_ n1_ n2_ n3_; clear hb hbox hg; have hcz6_0 : w5.cell? ⟨gb165, 0, none⟩ = some (.int .u64 0) := (blk_cell BK165.out 0).trans rfl; have hcz6_1 : w5.cell? ⟨gb165, 1, none⟩ = some (.int .u64 0) := (blk_cell BK165.out 1).trans rfl; have hfz6_0 := blk_frozen BK165.out 0; have hfz6_1 := blk_frozen BK165.out 1))
  go_loopg [7, 8, 9] k (fun kq v7 v8 v9 w' => ∃ (x7_1 : Int) (x8_1 : Int) (x9_1 : Int) (x166000_1 : Int) (x166001_1 : Int), v7 = .int .u64 x7_1 ∧ v8 = .int .u64 x8_1 ∧ v9 = .int .i64 x9_1 ∧ Aside0 (wigwaglaw19_CreditHolds.l0 kq l1 t164 x7_1 x8_1 x9_1 x166000_1 x166001_1 = some r) ∧ Aside0 (kq ≤ k) ∧ Aside0 (w'.heap[gb165]? = some (.cells #[.int .u64 x166000_1, .int .u64 x166001_1] 25 (0, 0))) ∧ Aside0 (Below w.heap.size w w'))
  case atStart => exact ⟨(a0), (0), (0), (a0), (0), (by first | rfl | (simp; done) | (simp [*]; done)), (by first | rfl | (simp; done) | (simp [*]; done)), (by first | rfl | (simp; done) | (simp [*]; done)), H', ⟨Nat.le_refl _⟩, ⟨by (with_reducible repeat (first | refine blk_drewN ?_ _ | refine blk_drew ?_ | refine blk_alloc ?_ _)); refine blk_put (cs := #[.int .u64 a0, .int .u64 0]) ?_ 1 _ rfl; (with_reducible repeat (first | refine blk_drewN ?_ _ | refine blk_drew ?_ | refine blk_alloc ?_ _)); refine blk_put (cs := #[.int .u64 0, .int .u64 0]) ?_ 0 _ rfl; (with_reducible repeat (first | refine blk_drewN ?_ _ | refine blk_drew ?_ | refine blk_alloc ?_ _)); exact BK165.out⟩, ⟨by repeat (first | (with_reducible first | exact HB.out | apply below_alloc | apply pw_below_drewN | apply below_drew1 | refine below_set ?_ GE165.out) | exact HB.out)⟩⟩
  case round =>
    clear H'
    try clear c1
    try clear p2
    try clear c5
    try clear hcz6_0
    try clear hcz6_1
    try clear hfz6_0
    try clear hfz6_1
    obtain ⟨x7_1, x8_1, x9_1, x166000_1, x166001_1, rfl, rfl, rfl, HA, HK1, BK165, HB⟩ := hrel
    cases gk with
    | zero => exact absurd HA.out (by simp [wigwaglaw19_CreditHolds.l0])
    | succ k1 =>
      have H := HA.out
      clear HA
      simp only [wigwaglaw19_CreditHolds.l0] at H
      have HC7 := Aside0.mk H
      clear H
      go_upto_region 6 with (fail)
      go_cut [23] (fun v23 wc => ∃ (kq : Nat) (x23_6 : Bool), v23 = .bool x23_6 ∧ Aside0 (wigwaglaw19_CreditHolds.j1 kq l1 t164 x7_1 x8_1 x9_1 x23_6 x166000_1 x166001_1 = some r) ∧ Aside0 (kq ≤ k1) ∧ Aside0 (wc.heap[gb165]? = some (.cells #[.int .u64 x166000_1, .int .u64 x166001_1] 25 (0, 0))) ∧ Aside0 (Below w.heap.size w wc))
      case first =>
        have H := HC7.out
        clear HC7
        by_cases c8 : x9_1 < (l1.length : Int)
        · rw [if_pos c8] at H
          have c8b0 : decide (x9_1 < (l1.length : Int)) = true := decide_eq_true c8
          clear c8
          (first | rw [c8b0] | (simp only [i64_w, i32_w]; rw [c8b0]) | skip)
          have H' := Aside0.mk H
          clear H
          go_wp2
          go_meet
          case rel => exact ⟨_, (decide (x9_1 < 200)), (by first | rfl | (simp; done) | (simp [*]; done)), H', ⟨by have := HK1.out; first | omega | exact Nat.le_refl _⟩, ⟨by (with_reducible repeat (first | refine blk_drewN ?_ _ | refine blk_drew ?_ | refine blk_alloc ?_ _)); exact BK165.out⟩, ⟨by repeat (first | (with_reducible first | exact HB.out | apply below_alloc | apply pw_below_drewN | apply below_drew1 | refine below_set ?_ GE165.out) | exact HB.out)⟩⟩
        · rw [if_neg c8] at H
          have c8b0 : decide (x9_1 < (l1.length : Int)) = false := decide_eq_false c8
          clear c8
          (first | rw [c8b0] | (simp only [i64_w, i32_w]; rw [c8b0]) | skip)
          have H' := Aside0.mk H
          clear H
          go_wp2
          go_meet
          case rel => exact ⟨_, (false), (by first | rfl | (simp; done) | (simp [*]; done)), H', ⟨by have := HK1.out; first | omega | exact Nat.le_refl _⟩, ⟨by (with_reducible repeat (first | refine blk_drewN ?_ _ | refine blk_drew ?_ | refine blk_alloc ?_ _)); exact BK165.out⟩, ⟨by repeat (first | (with_reducible first | exact HB.out | apply below_alloc | apply pw_below_drewN | apply below_drew1 | refine below_set ?_ GE165.out) | exact HB.out)⟩⟩
      case rest =>
        clear HC7
        try clear c1
        try clear p2
        try clear c5
        try clear c8
        try clear c8b0
        try clear hcz6_0
        try clear hcz6_1
        try clear hfz6_0
        try clear hfz6_1
        try clear p2
        obtain ⟨kq, x23_6, rfl, HA, HJ6, BK165, HB⟩ := hcut
        cases kq with
        | zero => exact absurd HA.out (by simp [wigwaglaw19_CreditHolds.j1])
        | succ kj6 =>
          have H := HA.out
          clear HA
          simp only [wigwaglaw19_CreditHolds.j1] at H
          by_cases c9 : x23_6 = true
          · subst c9
            have H1 : (if 0 ≤ x9_1 then (if x9_1 < (l1.length : Int) then (if ((rd_T41 l1 x9_1).f0) = 1 then ((credit_Use.f x166000_1 x166001_1 ((rd_T41 l1 x9_1).f1)).bind fun bt168 => (if (bt168.2.2 != (decide (((rd_T41 l1 x9_1).f1) ≤ (IntKind.u64.wrap (x7_1 - x8_1))))) = true then (some false) else (if bt168.2.2 = true then (wigwaglaw19_CreditHolds.j2 kj6 l1 t164 x7_1 (IntKind.u64.wrap (x8_1 + ((rd_T41 l1 x9_1).f1))) x9_1 bt168.1 bt168.2.1) else (wigwaglaw19_CreditHolds.j2 kj6 l1 t164 x7_1 x8_1 x9_1 bt168.1 bt168.2.1)))) else (if ((rd_T41 l1 x9_1).f0) = 2 then ((credit_Raise.f x166000_1 x166001_1 ((rd_T41 l1 x9_1).f1)).bind fun bt175 => (wigwaglaw19_CreditHolds.j2 kj6 l1 t164 (mx x7_1 ((rd_T41 l1 x9_1).f1)) x8_1 x9_1 bt175.1 bt175.2)) else (wigwaglaw19_CreditHolds.j2 kj6 l1 t164 x7_1 x8_1 x9_1 x166000_1 x166001_1))) else (none)) else (none)) = some r := by rw [if_pos rfl] at H; exact H
            clear H
            have H := H1
            clear H1
            by_cases c10 : 0 ≤ x9_1
            · rw [if_pos c10] at H
              have c10b0 : decide (0 ≤ x9_1) = true := decide_eq_true c10
              clear c10
              by_cases c11 : x9_1 < (l1.length : Int)
              · rw [if_pos c11] at H
                have c11b0 : decide (x9_1 < (l1.length : Int)) = true := decide_eq_true c11
                clear c11
                have HC12 := Aside0.mk H
                clear H
                have p166 : 0 ≤ (x9_1 : Int) := of_decide_eq_true (by first | (with_reducible assumption) | assumption)
                have q166 : x9_1 < (l1.length : Int) := of_decide_eq_true (by first | (with_reducible assumption) | assumption)
                obtain ⟨ad166, e166, hx166_0, hx166_1⟩ := at_T41 HR1.out x9_1 p166 q166
                cases e166
                replace hx166_0 := (HB.out.cell (World.block_lt_of_cell? w _ hx166_0)).trans hx166_0
                replace hx166_1 := (HB.out.cell (World.block_lt_of_cell? w _ hx166_1)).trans hx166_1
                replace p166 := eq_true p166
                replace q166 := eq_true q166
                go_upto_block 2 with (fail)
                go_cut [7, 8] (fun v7 v8 wc => ∃ (kq : Nat) (x7_11 : Int) (x8_11 : Int) (x166000_11 : Int) (x166001_11 : Int), v7 = .int .u64 x7_11 ∧ v8 = .int .u64 x8_11 ∧ Aside0 (wigwaglaw19_CreditHolds.j2 kq l1 t164 x7_11 x8_11 x9_1 x166000_11 x166001_11 = some r) ∧ Aside0 (kq ≤ kj6) ∧ Aside0 (wc.heap[gb165]? = some (.cells #[.int .u64 x166000_11, .int .u64 x166001_11] 25 (0, 0))) ∧ Aside0 (Below w.heap.size w wc))
                case first =>
                  have H := HC12.out
                  clear HC12
                  by_cases c13 : ((rd_T41 l1 x9_1).f0) = 1
                  · rw [if_pos c13] at H
                    have c13b0 : (((rd_T41 l1 x9_1).f0) == 1) = true := beq_iff_eq.mpr c13
                    have c13b1 : (((rd_T41 l1 x9_1).f0) != 1) = false := bne_eq_false_iff_eq.mpr c13
                    clear c13
                    (first | rw [c13b0] | (simp only [i64_w, i32_w]; rw [c13b0]) | skip)
                    replace H := Option.bind_eq_some_iff.mp H
                    obtain ⟨⟨t168, t169, t170⟩, A140, H⟩ := H
                    replace H : (if (t170 != (decide (((rd_T41 l1 x9_1).f1) ≤ (IntKind.u64.wrap (x7_1 - x8_1))))) = true then (some false) else (if t170 = true then (wigwaglaw19_CreditHolds.j2 kj6 l1 t164 x7_1 (IntKind.u64.wrap (x8_1 + ((rd_T41 l1 x9_1).f1))) x9_1 t168 t169) else (wigwaglaw19_CreditHolds.j2 kj6 l1 t164 x7_1 x8_1 x9_1 t168 t169))) = some r := H
                    have A14 := Aside0.mk A140
                    clear A140
                    by_cases c15 : (t170 != (decide (((rd_T41 l1 x9_1).f1) ≤ (IntKind.u64.wrap (x7_1 - x8_1))))) = true
                    · rw [if_pos c15] at H
                      have c15b0 : (t170 != (decide (((rd_T41 l1 x9_1).f1) ≤ (IntKind.u64.wrap (x7_1 - x8_1))))) = true := c15
                      (try (have c15b1 : decide (t170 = (decide (((rd_T41 l1 x9_1).f1) ≤ (IntKind.u64.wrap (x7_1 - x8_1))))) = false := by simpa using c15))
                      (try (have c15b2 : (t170 == (decide (((rd_T41 l1 x9_1).f1) ≤ (IntKind.u64.wrap (x7_1 - x8_1))))) = false := by simpa using c15))
                      (try (have c15b3 : ¬ (t170 = (decide (((rd_T41 l1 x9_1).f1) ≤ (IntKind.u64.wrap (x7_1 - x8_1))))) := by simpa using c15))
                      clear c15
                      obtain rfl := Option.some.inj H
                      try go_wp2
                      have n0_ := Aside0.mk (blk_drew BK165.out)
                      have n1_ := Aside0.mk (below_drew1 HB.out)
                      clear BK165
                      clear HB
                      have BK165 := n0_
                      have HB := n1_
                      clear n0_ n1_
                      have p167 : 0 ≤ (x9_1 : Int) := of_decide_eq_true (by first | (with_reducible assumption) | assumption)
                      have q167 : x9_1 < (l1.length : Int) := of_decide_eq_true (by first | (with_reducible assumption) | assumption)
                      obtain ⟨ad167, e167, hx167_0, hx167_1⟩ := at_T41 HR1.out x9_1 p167 q167
                      have hw167_1 := hx167_1
                      have hw167_0 := hx167_0
                      obtain rfl : ad166 = ad167 := (by injection e167)
                      replace hx167_0 := (HB.out.cell (World.block_lt_of_cell? w _ hx167_0)).trans hx167_0
                      replace hx167_1 := (HB.out.cell (World.block_lt_of_cell? w _ hx167_1)).trans hx167_1
                      replace p167 := eq_true p167
                      replace q167 := eq_true q167
                      refine start_ (n := 13) (S := fun w' => w'.cell? ⟨gb165, 0, none⟩ = some (.int .u64 x166000_1) ∧ w'.cell? ⟨gb165, 1, none⟩ = some (.int .u64 x166001_1) ∧ w'.cell? (ad166.add ((x9_1).toNat * 2)) = some (.int .i64 ((rd_T41 l1 x9_1).f0)) ∧ w'.cell? ⟨(ad166.add ((x9_1).toNat * 2)).block, (ad166.add ((x9_1).toNat * 2)).off + 1, none⟩ = some (.int .u64 ((rd_T41 l1 x9_1).f1))) (ds := []) #[false, false, false, false, false, false, false, false, false, false, false, false, false] (by kernel_rfl) rfl rfl ⟨(blk_cell BK165.out 0).trans rfl, (blk_cell BK165.out 1).trans rfl, ((HB.out.cell (World.block_lt_of_cell? w _ hw167_0)).trans hw167_0), ((HB.out.cell (World.block_lt_of_cell? w _ hw167_1)).trans hw167_1)⟩ (fun hHeld => ?_); refine with_tabW wigwaglaw19_CreditHolds.tab10 wigwaglaw19_CreditHolds.bits10 (fun HT_ HW_ => ?_)
                      generalize wc.drew = w16 at BK165 HB hx167_0 hx167_1 hHeld ⊢
                      refine pure_ (i := 1) (N := some 35) (v := ?_) (a' := ?_) #[false, true, false, false, false, false, false, false, false, false, false, false, false] rfl rfl (any_of HT_.out (by kernel_rfl)) (fun _ _ _ h => h) (Or.inl ⟨by rfl, ?_⟩) ?_ ?_
                      rotate_left
                      · intro w'
                        go_simp
                        with_reducible rfl
                      rotate_left
                      · simp only [Act.put, List.setIfInBounds_toArray, List.set_cons_zero, List.set_cons_succ, i64_w, i32_w]
                        rfl
                      refine pure_ (i := 2) (N := some 36) (v := ?_) (a' := ?_) #[false, true, true, false, false, false, false, false, false, false, false, false, false] rfl rfl (any_of HT_.out (by kernel_rfl)) (fun _ _ _ h => h) (Or.inl ⟨by rfl, ?_⟩) ?_ ?_
                      rotate_left
                      · intro w'
                        go_simp
                        with_reducible rfl
                      rotate_left
                      · simp only [Act.put, List.setIfInBounds_toArray, List.set_cons_zero, List.set_cons_succ, i64_w, i32_w]
                        rfl
                      refine pure_ (i := 3) (N := some 37) (v := ?_) (a' := ?_) #[false, true, true, true, false, false, false, false, false, false, false, false, false] rfl rfl (any_of HT_.out (by kernel_rfl)) (fun _ _ _ h => h) (Or.inl ⟨by rfl, ?_⟩) ?_ ?_
                      rotate_left
                      · intro w'
                        go_simp
                        with_reducible rfl
                      rotate_left
                      · simp only [Act.put, List.setIfInBounds_toArray, List.set_cons_zero, List.set_cons_succ, i64_w, i32_w]
                        rfl
                      refine pure_ (i := 4) (N := some 38) (v := ?_) (a' := ?_) #[false, true, true, true, true, false, false, false, false, false, false, false, false] rfl rfl (any_of HT_.out (by kernel_rfl)) (fun _ _ _ h => h) (Or.inl ⟨by rfl, ?_⟩) ?_ ?_
                      rotate_left
                      · intro w'
                        go_simp
                        with_reducible rfl
                      rotate_left
                      · simp only [Act.put, List.setIfInBounds_toArray, List.set_cons_zero, List.set_cons_succ, i64_w, i32_w]
                        rfl
                      refine take_ (i := 0) (N := some 34) (v := ?_) (a' := ?_) #[true, true, true, true, true, false, false, false, false, false, false, false, false] rfl rfl (take_ofW HT_.out HW_.out (by kernel_rfl)) (fun _ _ _ h => h) (Or.inl ⟨by rfl, ?_⟩) hHeld ?_ ?_
                      rotate_left
                      · rintro w' ⟨s0, s1, s2, s3⟩
                        go_simp
                        with_reducible rfl
                      rotate_left
                      · simp only [Act.put, List.setIfInBounds_toArray, List.set_cons_zero, List.set_cons_succ, i64_w, i32_w]
                        rfl
                      refine take_ (i := 5) (N := some 39) (v := ?_) (a' := ?_) #[true, true, true, true, true, true, false, false, false, false, false, false, false] rfl rfl (take_ofW HT_.out HW_.out (by kernel_rfl)) (fun _ _ _ h => h) (Or.inl ⟨by rfl, ?_⟩) hHeld ?_ ?_
                      rotate_left
                      · rintro w' ⟨s0, s1, s2, s3⟩
                        go_simp
                        with_reducible rfl
                      rotate_left
                      · simp only [Act.put, List.setIfInBounds_toArray, List.set_cons_zero, List.set_cons_succ, i64_w, i32_w]
                        rfl
                      refine join_ (σ := Nat) 2 #[true, true, true, true, true, true, true, true, true, true, true, false, false] (fun s_ => [(40, .tuple #[.agg #[.int .u64 t168, .int .u64 t169], .bool t170]), (10, .pointer (some ⟨s_, 0, none⟩)), (33, .tuple #[.agg #[.int .u64 t168, .int .u64 t169], .bool t170]), (41, .agg #[.int .u64 t168, .int .u64 t169]), (42, .bool t170)]) (fun s_ w' => (w'.cell? ⟨gb165, 0, none⟩ = some (.int .u64 x166000_1) ∧ w'.cell? ⟨gb165, 1, none⟩ = some (.int .u64 x166001_1) ∧ w'.cell? (ad166.add ((x9_1).toNat * 2)) = some (.int .i64 ((rd_T41 l1 x9_1).f0)) ∧ w'.cell? ⟨(ad166.add ((x9_1).toNat * 2)).block, (ad166.add ((x9_1).toNat * 2)).off + 1, none⟩ = some (.int .u64 ((rd_T41 l1 x9_1).f1))) ∧ (w'.heap[gb165]? = some (.cells #[.int .u64 x166000_1, .int .u64 x166001_1] 25 (0, 0))) ∧ (w'.heap[s_]? = some (.cells #[.int .u64 0, .int .u64 0] 25 (0, 0))) ∧ (w.heap.size ≤ s_) ∧ (w.heap.size ≤ s_) ∧ (gb165 ≠ s_) ∧ (s_ ≠ gb165) ∧ (Below w.heap.size w w')) ?_ ?_
                      rotate_left
                      · intro hCont
                        refine two_ (i := 6) (j := 10) (Ni := some 40) (Nj := some 10) #[true, true, true, true, true, true, true, false, false, false, false, false, false] #[true, true, true, true, true, true, false, false, false, false, true, false, false] rfl rfl rfl rfl (two_of HT_.out (by kernel_rfl)) (by decide) (by decide) (fun K hK => ?_) (fun K hK => ?_)
                        · skip
                          refine goes_ Try.func10 (by kernel_rfl) rfl #[.agg #[.int .u64 x166000_1, .int .u64 x166001_1], .int .u64 ((rd_T41 l1 x9_1).f1)] (by rfl) rfl rfl (by (try simp only [List.map_toArray, List.map_cons, List.map_nil]); first | done | rfl | (simp only [List.length_drop, List.length_take]; rfl)) ?_
                          with_reducible refine (credit_Use.calls x166000_1 x166001_1 ((rd_T41 l1 x9_1).f1) t168 t169 t170 _ A14.out).mono ?_
                          rintro e w17 ⟨rfl, hb⟩
                          refine ⟨_, rfl, ?_⟩
                          have n0_ := Aside0.mk (blk_below (g := gb165) (o := .cells #[.int .u64 x166000_1, .int .u64 x166001_1] 25 (0, 0)) (by (with_reducible repeat (first | refine blk_drewN ?_ _ | refine blk_drew ?_ | refine blk_alloc ?_ _)); exact BK165.out) hb)
                          have n1_ := Aside0.mk (below_step (by repeat (first | (with_reducible first | exact HB.out | apply below_alloc | apply pw_below_drewN | apply below_drew1 | refine below_set ?_ GE165.out) | exact HB.out)) hb)
                          clear BK165
                          clear HB
                          have BK165 := n0_
                          have HB := n1_
                          clear n0_ n1_
                          (try clear hb)
                          (try clear hb2)
                          (try clear hk)
                          (try clear hi)
                          refine hK.out _ _ ⟨(blk_cell BK165.out 0).trans rfl, (blk_cell BK165.out 1).trans rfl, ((HB.out.cell (World.block_lt_of_cell? w _ hw167_0)).trans hw167_0), ((HB.out.cell (World.block_lt_of_cell? w _ hw167_1)).trans hw167_1)⟩ (fun hHeld => ?_)
                          clear hK K
                          refine norm_ (a' := ?_) ?_ ?_
                          rotate_left
                          · show Act.put _ (some 40) _ = _
                            simp only [Act.put, List.setIfInBounds_toArray, List.set_cons_zero, List.set_cons_succ, i64_w, i32_w]
                            rfl
                          refine pure_ (i := 7) (N := some 33) (v := ?_) (a' := ?_) #[true, true, true, true, true, true, true, true, false, false, false, false, false] rfl rfl (any_of HT_.out (by kernel_rfl)) (fun _ _ _ h => h) (Or.inl ⟨by rfl, ?_⟩) ?_ ?_
                          rotate_left
                          · intro w'
                            go_simp
                            with_reducible rfl
                          rotate_left
                          · simp only [Act.put, List.setIfInBounds_toArray, List.set_cons_zero, List.set_cons_succ, i64_w, i32_w]
                            rfl
                          refine pure_ (i := 8) (N := some 41) (v := ?_) (a' := ?_) #[true, true, true, true, true, true, true, true, true, false, false, false, false] rfl rfl (any_of HT_.out (by kernel_rfl)) (fun _ _ _ h => h) (Or.inl ⟨by rfl, ?_⟩) ?_ ?_
                          rotate_left
                          · intro w'
                            go_simp
                            with_reducible rfl
                          rotate_left
                          · simp only [Act.put, List.setIfInBounds_toArray, List.set_cons_zero, List.set_cons_succ, i64_w, i32_w]
                            rfl
                          refine pure_ (i := 9) (N := some 42) (v := ?_) (a' := ?_) #[true, true, true, true, true, true, true, true, true, true, false, false, false] rfl rfl (any_of HT_.out (by kernel_rfl)) (fun _ _ _ h => h) (Or.inl ⟨by rfl, ?_⟩) ?_ ?_
                          rotate_left
                          · intro w'
                            go_simp
                            with_reducible rfl
                          rotate_left
                          · simp only [Act.put, List.setIfInBounds_toArray, List.set_cons_zero, List.set_cons_succ, i64_w, i32_w]
                            rfl
                          refine one_ (i := 10) (N := some 10) #[true, true, true, true, true, true, true, true, true, true, true, false, false] rfl rfl (one_of HT_.out (by kernel_rfl)) (by decide) (fun K hK => ?_)
                          refine box_step ?hg (N := 10) ?hd (cs := #[.int .u64 0, .int .u64 0]) (t := 25) ?hr ?_; (case hd => rfl); (case hg => rfl); (case hr => first | (go_simp; done) | (go_simp; rfl))
                          intro gb171 hg w18 hbox hb
                          have n0_ := Aside0.mk (blk_below (g := gb165) (o := .cells #[.int .u64 x166000_1, .int .u64 x166001_1] 25 (0, 0)) (by (with_reducible repeat (first | refine blk_drewN ?_ _ | refine blk_drew ?_ | refine blk_alloc ?_ _)); exact BK165.out) hb)
                          have n1_ := Aside0.mk (below_step (by repeat (first | (with_reducible first | exact HB.out | apply below_alloc | apply pw_below_drewN | apply below_drew1 | refine below_set ?_ GE165.out) | exact HB.out)) hb)
                          have n2_ := Aside0.mk (hbox)
                          have n3_ := Aside0.mk ((by rw [hg]; exact (below_size (by repeat (first | (with_reducible first | exact HB.out | apply below_alloc | apply pw_below_drewN | apply below_drew1 | refine below_set ?_ GE165.out) | exact HB.out))) : w.heap.size ≤ gb171))
                          have n4_ := Aside0.mk ((by rw [hg]; exact (below_size (by repeat (first | (with_reducible first | exact HB.out | apply below_alloc | apply pw_below_drewN | apply below_drew1 | refine below_set ?_ GE165.out) | exact HB.out))) : w.heap.size ≤ gb171))
                          have n5_ := Aside0.mk ((by rw [hg]; exact Nat.ne_of_lt (blk_lt (g := gb165) (o := .cells #[.int .u64 x166000_1, .int .u64 x166001_1] 25 (0, 0)) (by (with_reducible repeat (first | refine blk_drewN ?_ _ | refine blk_drew ?_ | refine blk_alloc ?_ _)); exact BK165.out)) : gb165 ≠ gb171))
                          have n6_ := Aside0.mk ((by rw [hg]; exact Nat.ne_of_gt (blk_lt (g := gb165) (o := .cells #[.int .u64 x166000_1, .int .u64 x166001_1] 25 (0, 0)) (by (with_reducible repeat (first | refine blk_drewN ?_ _ | refine blk_drew ?_ | refine blk_alloc ?_ _)); exact BK165.out)) : gb171 ≠ gb165))
                          clear BK165
                          clear HB
                          have BK165 := n0_
                          have HB := n1_
                          have BK171 := n2_
                          have GW171 := n3_
                          have GE171 := n4_
                          have NB165_171 := n5_
                          have NB171_165 := n6_
                          clear n0_ n1_ n2_ n3_ n4_ n5_ n6_
                          clear hb hbox hg
                          refine hK.out _ _ ⟨(blk_cell BK165.out 0).trans rfl, (blk_cell BK165.out 1).trans rfl, ((HB.out.cell (World.block_lt_of_cell? w _ hw167_0)).trans hw167_0), ((HB.out.cell (World.block_lt_of_cell? w _ hw167_1)).trans hw167_1)⟩ (fun hHeld => ?_)
                          clear hK K
                          refine norm_ (a' := ?_) ?_ ?_
                          rotate_left
                          · show Act.put _ (some 10) _ = _
                            simp only [Act.put, List.setIfInBounds_toArray, List.set_cons_zero, List.set_cons_succ, i64_w, i32_w]
                            rfl
                          exact norm_ (by simp only [putAll, Act.put, List.setIfInBounds_toArray, List.set_cons_zero, List.set_cons_succ]) (hCont (gb171) _ ⟨hHeld, (by (with_reducible repeat (first | refine blk_drewN ?_ _ | refine blk_drew ?_ | refine blk_alloc ?_ _)); exact BK165.out), (by (with_reducible repeat (first | refine blk_drewN ?_ _ | refine blk_drew ?_ | refine blk_alloc ?_ _)); exact BK171.out), GW171.out, GE171.out, NB165_171.out, NB171_165.out, (by repeat (first | (with_reducible first | exact HB.out | apply below_alloc | apply pw_below_drewN | apply below_drew1 | refine below_set ?_ GE165.out | refine below_set ?_ GE171.out) | exact HB.out))⟩)
                        · skip
                          refine box_step ?hg (N := 10) ?hd (cs := #[.int .u64 0, .int .u64 0]) (t := 25) ?hr ?_; (case hd => rfl); (case hg => rfl); (case hr => first | (go_simp; done) | (go_simp; rfl))
                          intro gb171 hg w17 hbox hb
                          have n0_ := Aside0.mk (blk_below (g := gb165) (o := .cells #[.int .u64 x166000_1, .int .u64 x166001_1] 25 (0, 0)) (by (with_reducible repeat (first | refine blk_drewN ?_ _ | refine blk_drew ?_ | refine blk_alloc ?_ _)); exact BK165.out) hb)
                          have n1_ := Aside0.mk (below_step (by repeat (first | (with_reducible first | exact HB.out | apply below_alloc | apply pw_below_drewN | apply below_drew1 | refine below_set ?_ GE165.out) | exact HB.out)) hb)
                          have n2_ := Aside0.mk (hbox)
                          have n3_ := Aside0.mk ((by rw [hg]; exact (below_size (by repeat (first | (with_reducible first | exact HB.out | apply below_alloc | apply pw_below_drewN | apply below_drew1 | refine below_set ?_ GE165.out) | exact HB.out))) : w.heap.size ≤ gb171))
                          have n4_ := Aside0.mk ((by rw [hg]; exact (below_size (by repeat (first | (with_reducible first | exact HB.out | apply below_alloc | apply pw_below_drewN | apply below_drew1 | refine below_set ?_ GE165.out) | exact HB.out))) : w.heap.size ≤ gb171))
                          have n5_ := Aside0.mk ((by rw [hg]; exact Nat.ne_of_lt (blk_lt (g := gb165) (o := .cells #[.int .u64 x166000_1, .int .u64 x166001_1] 25 (0, 0)) (by (with_reducible repeat (first | refine blk_drewN ?_ _ | refine blk_drew ?_ | refine blk_alloc ?_ _)); exact BK165.out)) : gb165 ≠ gb171))
                          have n6_ := Aside0.mk ((by rw [hg]; exact Nat.ne_of_gt (blk_lt (g := gb165) (o := .cells #[.int .u64 x166000_1, .int .u64 x166001_1] 25 (0, 0)) (by (with_reducible repeat (first | refine blk_drewN ?_ _ | refine blk_drew ?_ | refine blk_alloc ?_ _)); exact BK165.out)) : gb171 ≠ gb165))
                          clear BK165
                          clear HB
                          have BK165 := n0_
                          have HB := n1_
                          have BK171 := n2_
                          have GW171 := n3_
                          have GE171 := n4_
                          have NB165_171 := n5_
                          have NB171_165 := n6_
                          clear n0_ n1_ n2_ n3_ n4_ n5_ n6_
                          clear hb hbox hg
                          refine hK.out _ _ ⟨(blk_cell BK165.out 0).trans rfl, (blk_cell BK165.out 1).trans rfl, ((HB.out.cell (World.block_lt_of_cell? w _ hw167_0)).trans hw167_0), ((HB.out.cell (World.block_lt_of_cell? w _ hw167_1)).trans hw167_1)⟩ (fun hHeld => ?_)
                          clear hK K
                          refine norm_ (a' := ?_) ?_ ?_
                          rotate_left
                          · show Act.put _ (some 10) _ = _
                            simp only [Act.put, List.setIfInBounds_toArray, List.set_cons_zero, List.set_cons_succ, i64_w, i32_w]
                            rfl
                          refine one_ (i := 6) (N := some 40) #[true, true, true, true, true, true, true, false, false, false, true, false, false] rfl rfl (one_of HT_.out (by kernel_rfl)) (by decide) (fun K hK => ?_)
                          refine goes_ Try.func10 (by kernel_rfl) rfl #[.agg #[.int .u64 x166000_1, .int .u64 x166001_1], .int .u64 ((rd_T41 l1 x9_1).f1)] (by rfl) rfl rfl (by (try simp only [List.map_toArray, List.map_cons, List.map_nil]); first | done | rfl | (simp only [List.length_drop, List.length_take]; rfl)) ?_
                          with_reducible refine (credit_Use.calls x166000_1 x166001_1 ((rd_T41 l1 x9_1).f1) t168 t169 t170 _ A14.out).mono ?_
                          rintro e w18 ⟨rfl, hb⟩
                          refine ⟨_, rfl, ?_⟩
                          have n0_ := Aside0.mk (blk_below (g := gb165) (o := .cells #[.int .u64 x166000_1, .int .u64 x166001_1] 25 (0, 0)) (by (with_reducible repeat (first | refine blk_drewN ?_ _ | refine blk_drew ?_ | refine blk_alloc ?_ _)); exact BK165.out) hb)
                          have n1_ := Aside0.mk (blk_below (g := gb171) (o := .cells #[.int .u64 0, .int .u64 0] 25 (0, 0)) (by (with_reducible repeat (first | refine blk_drewN ?_ _ | refine blk_drew ?_ | refine blk_alloc ?_ _)); exact BK171.out) hb)
                          have n2_ := Aside0.mk (below_step (by repeat (first | (with_reducible first | exact HB.out | apply below_alloc | apply pw_below_drewN | apply below_drew1 | refine below_set ?_ GE165.out | refine below_set ?_ GE171.out) | exact HB.out)) hb)
                          clear BK165
                          clear BK171
                          clear HB
                          have BK165 := n0_
                          have BK171 := n1_
                          have HB := n2_
                          clear n0_ n1_ n2_
                          (try clear hb)
                          (try clear hb2)
                          (try clear hk)
                          (try clear hi)
                          refine hK.out _ _ ⟨(blk_cell BK165.out 0).trans rfl, (blk_cell BK165.out 1).trans rfl, ((HB.out.cell (World.block_lt_of_cell? w _ hw167_0)).trans hw167_0), ((HB.out.cell (World.block_lt_of_cell? w _ hw167_1)).trans hw167_1)⟩ (fun hHeld => ?_)
                          clear hK K
                          refine norm_ (a' := ?_) ?_ ?_
                          rotate_left
                          · show Act.put _ (some 40) _ = _
                            simp only [Act.put, List.setIfInBounds_toArray, List.set_cons_zero, List.set_cons_succ, i64_w, i32_w]
                            rfl
                          refine pure_ (i := 7) (N := some 33) (v := ?_) (a' := ?_) #[true, true, true, true, true, true, true, true, false, false, true, false, false] rfl rfl (any_of HT_.out (by kernel_rfl)) (fun _ _ _ h => h) (Or.inl ⟨by rfl, ?_⟩) ?_ ?_
                          rotate_left
                          · intro w'
                            go_simp
                            with_reducible rfl
                          rotate_left
                          · simp only [Act.put, List.setIfInBounds_toArray, List.set_cons_zero, List.set_cons_succ, i64_w, i32_w]
                            rfl
                          refine pure_ (i := 8) (N := some 41) (v := ?_) (a' := ?_) #[true, true, true, true, true, true, true, true, true, false, true, false, false] rfl rfl (any_of HT_.out (by kernel_rfl)) (fun _ _ _ h => h) (Or.inl ⟨by rfl, ?_⟩) ?_ ?_
                          rotate_left
                          · intro w'
                            go_simp
                            with_reducible rfl
                          rotate_left
                          · simp only [Act.put, List.setIfInBounds_toArray, List.set_cons_zero, List.set_cons_succ, i64_w, i32_w]
                            rfl
                          refine pure_ (i := 9) (N := some 42) (v := ?_) (a' := ?_) #[true, true, true, true, true, true, true, true, true, true, true, false, false] rfl rfl (any_of HT_.out (by kernel_rfl)) (fun _ _ _ h => h) (Or.inl ⟨by rfl, ?_⟩) ?_ ?_
                          rotate_left
                          · intro w'
                            go_simp
                            with_reducible rfl
                          rotate_left
                          · simp only [Act.put, List.setIfInBounds_toArray, List.set_cons_zero, List.set_cons_succ, i64_w, i32_w]
                            rfl
                          exact norm_ (by simp only [putAll, Act.put, List.setIfInBounds_toArray, List.set_cons_zero, List.set_cons_succ]) (hCont (gb171) _ ⟨hHeld, (by (with_reducible repeat (first | refine blk_drewN ?_ _ | refine blk_drew ?_ | refine blk_alloc ?_ _)); exact BK165.out), (by (with_reducible repeat (first | refine blk_drewN ?_ _ | refine blk_drew ?_ | refine blk_alloc ?_ _)); exact BK171.out), GW171.out, GE171.out, NB165_171.out, NB171_165.out, (by repeat (first | (with_reducible first | exact HB.out | apply below_alloc | apply pw_below_drewN | apply below_drew1 | refine below_set ?_ GE165.out | refine below_set ?_ GE171.out) | exact HB.out))⟩)
                      rintro gb171 w19 ⟨hS_, h0_, h1_, h2_, h3_, h4_, h5_, h6_⟩
                      have n0_ : Aside0 (w19.heap[gb165]? = some (.cells #[.int .u64 x166000_1, .int .u64 x166001_1] 25 (0, 0))) := ⟨h0_⟩
                      have n1_ : Aside0 (w19.heap[gb171]? = some (.cells #[.int .u64 0, .int .u64 0] 25 (0, 0))) := ⟨h1_⟩
                      have n2_ : Aside0 (w.heap.size ≤ gb171) := ⟨h2_⟩
                      have n3_ : Aside0 (w.heap.size ≤ gb171) := ⟨h3_⟩
                      have n4_ : Aside0 (gb165 ≠ gb171) := ⟨h4_⟩
                      have n5_ : Aside0 (gb171 ≠ gb165) := ⟨h5_⟩
                      have n6_ : Aside0 (Below w.heap.size w w19) := ⟨h6_⟩
                      clear BK165
                      clear HB
                      clear h0_ h1_ h2_ h3_ h4_ h5_ h6_
                      have BK165 := n0_
                      have BK171 := n1_
                      have GW171 := n2_
                      have GE171 := n3_
                      have NB165_171 := n4_
                      have NB171_165 := n5_
                      have HB := n6_
                      clear n0_ n1_ n2_ n3_ n4_ n5_ n6_
                      have hHeld : w19.cell? ⟨gb165, 0, none⟩ = some (.int .u64 x166000_1) ∧ w19.cell? ⟨gb165, 1, none⟩ = some (.int .u64 x166001_1) ∧ w19.cell? (ad166.add ((x9_1).toNat * 2)) = some (.int .i64 ((rd_T41 l1 x9_1).f0)) ∧ w19.cell? ⟨(ad166.add ((x9_1).toNat * 2)).block, (ad166.add ((x9_1).toNat * 2)).off + 1, none⟩ = some (.int .u64 ((rd_T41 l1 x9_1).f1)) := hS_
                      refine norm_ (a' := ?_) ?_ ?_
                      rotate_left
                      · simp only [putAll, Act.put, List.setIfInBounds_toArray, List.set_cons_zero, List.set_cons_succ]
                        rfl
                      refine one_ (i := 11) (N := none) #[true, true, true, true, true, true, true, true, true, true, true, true, false] rfl rfl (one_of HT_.out (by kernel_rfl)) (by decide) (fun K hK => ?_)
                      have hs20 : w19.cell? ⟨gb171, 0, none⟩ = some (.int .u64 0) := (blk_cell BK171.out 0).trans rfl
                      have hfs20 := blk_frozen BK171.out 0
                      have hns20_0 := NB165_171.out
                      have hms20_0 := NB171_165.out
                      have hs21 : w19.cell? ⟨gb171, 1, none⟩ = some (.int .u64 0) := (blk_cell BK171.out 1).trans rfl
                      have hfs21 := blk_frozen BK171.out 1
                      have hns21_0 := NB165_171.out
                      have hms21_0 := NB171_165.out
                      refine skip_ (w1 := ?_) (by rfl) rfl ?_ ?_
                      rotate_left
                      · go_simp
                        rfl
                      refine hK.out _ _ ⟨((cell_far (p := ⟨gb171, _, none⟩) NB165_171.out _).trans (((cell_far (p := ⟨gb171, _, none⟩) NB165_171.out _).trans (hHeld.1)))), ((cell_far (p := ⟨gb171, _, none⟩) NB165_171.out _).trans (((cell_far (p := ⟨gb171, _, none⟩) NB165_171.out _).trans (hHeld.2.1)))), ((cell_far (p := ⟨gb171, _, none⟩) (by first | exact Nat.ne_of_lt (Nat.lt_of_lt_of_le (by have := World.block_lt_of_cell? _ _ hw167_0; first | rwa [add_block] at this | exact this) GW171.out) | (rw [add_block]; exact Nat.ne_of_lt (Nat.lt_of_lt_of_le (by have := World.block_lt_of_cell? _ _ hw167_0; first | rwa [add_block] at this | exact this) GW171.out)) | (show (Addr.add _ _).block ≠ _; rw [add_block]; exact Nat.ne_of_lt (Nat.lt_of_lt_of_le (by have := World.block_lt_of_cell? _ _ hw167_0; first | rwa [add_block] at this | exact this) GW171.out)) | (dsimp only; exact Nat.ne_of_lt (Nat.lt_of_lt_of_le (by have := World.block_lt_of_cell? _ _ hw167_0; first | rwa [add_block] at this | exact this) GW171.out))) _).trans (((cell_far (p := ⟨gb171, _, none⟩) (by first | exact Nat.ne_of_lt (Nat.lt_of_lt_of_le (by have := World.block_lt_of_cell? _ _ hw167_0; first | rwa [add_block] at this | exact this) GW171.out) | (rw [add_block]; exact Nat.ne_of_lt (Nat.lt_of_lt_of_le (by have := World.block_lt_of_cell? _ _ hw167_0; first | rwa [add_block] at this | exact this) GW171.out)) | (show (Addr.add _ _).block ≠ _; rw [add_block]; exact Nat.ne_of_lt (Nat.lt_of_lt_of_le (by have := World.block_lt_of_cell? _ _ hw167_0; first | rwa [add_block] at this | exact this) GW171.out)) | (dsimp only; exact Nat.ne_of_lt (Nat.lt_of_lt_of_le (by have := World.block_lt_of_cell? _ _ hw167_0; first | rwa [add_block] at this | exact this) GW171.out))) _).trans (hHeld.2.2.1)))), ((cell_far (p := ⟨gb171, _, none⟩) (by first | exact Nat.ne_of_lt (Nat.lt_of_lt_of_le (by have := World.block_lt_of_cell? _ _ hw167_1; first | rwa [add_block] at this | exact this) GW171.out) | (rw [add_block]; exact Nat.ne_of_lt (Nat.lt_of_lt_of_le (by have := World.block_lt_of_cell? _ _ hw167_1; first | rwa [add_block] at this | exact this) GW171.out)) | (show (Addr.add _ _).block ≠ _; rw [add_block]; exact Nat.ne_of_lt (Nat.lt_of_lt_of_le (by have := World.block_lt_of_cell? _ _ hw167_1; first | rwa [add_block] at this | exact this) GW171.out)) | (dsimp only; exact Nat.ne_of_lt (Nat.lt_of_lt_of_le (by have := World.block_lt_of_cell? _ _ hw167_1; first | rwa [add_block] at this | exact this) GW171.out))) _).trans (((cell_far (p := ⟨gb171, _, none⟩) (by first | exact Nat.ne_of_lt (Nat.lt_of_lt_of_le (by have := World.block_lt_of_cell? _ _ hw167_1; first | rwa [add_block] at this | exact this) GW171.out) | (rw [add_block]; exact Nat.ne_of_lt (Nat.lt_of_lt_of_le (by have := World.block_lt_of_cell? _ _ hw167_1; first | rwa [add_block] at this | exact this) GW171.out)) | (show (Addr.add _ _).block ≠ _; rw [add_block]; exact Nat.ne_of_lt (Nat.lt_of_lt_of_le (by have := World.block_lt_of_cell? _ _ hw167_1; first | rwa [add_block] at this | exact this) GW171.out)) | (dsimp only; exact Nat.ne_of_lt (Nat.lt_of_lt_of_le (by have := World.block_lt_of_cell? _ _ hw167_1; first | rwa [add_block] at this | exact this) GW171.out))) _).trans (hHeld.2.2.2))))⟩ (fun hHeld => ?_)
                      clear hK K
                      refine pure_ (i := 12) (N := some 11) (v := ?_) (a' := ?_) #[true, true, true, true, true, true, true, true, true, true, true, true, true] rfl rfl (any_of HT_.out (by kernel_rfl)) (fun _ _ _ h => h) (Or.inl ⟨by rfl, ?_⟩) ?_ ?_
                      rotate_left
                      · intro w'
                        go_simp
                        with_reducible rfl
                      rotate_left
                      · simp only [Act.put, List.setIfInBounds_toArray, List.set_cons_zero, List.set_cons_succ, i64_w, i32_w]
                        rfl
                      refine done_ (done_of HT_.out (by kernel_rfl)) ?_
                      have p172 : 0 ≤ (x9_1 : Int) := of_decide_eq_true (by first | (with_reducible assumption) | assumption)
                      have q172 : x9_1 < (l1.length : Int) := of_decide_eq_true (by first | (with_reducible assumption) | assumption)
                      obtain ⟨ad172, e172, hx172_0, hx172_1⟩ := at_T41 HR1.out x9_1 p172 q172
                      obtain rfl : ad166 = ad172 := (by injection e172)
                      have hn172_0 : ad166.block ≠ gb171 := Nat.ne_of_lt (Nat.lt_of_lt_of_le (by have := World.block_lt_of_cell? _ _ hx172_0; first | rwa [add_block] at this | exact this) GW171.out)
                      have hn172_1 : ad166.block ≠ gb171 := Nat.ne_of_lt (Nat.lt_of_lt_of_le (by have := World.block_lt_of_cell? _ _ hx172_0; first | rwa [add_block] at this | exact this) GW171.out)
                      replace hx172_0 := (HB.out.cell (World.block_lt_of_cell? w _ hx172_0)).trans hx172_0
                      replace hx172_1 := (HB.out.cell (World.block_lt_of_cell? w _ hx172_1)).trans hx172_1
                      replace hx172_0 := (cell_far (p := ⟨gb171, 0, none⟩) (by first | (rw [add_block]; exact hn172_0) | (show (Addr.add _ _).block ≠ _; rw [add_block]; exact hn172_0) | exact hn172_0) (.int .u64 t168)).trans hx172_0
                      replace hx172_1 := (cell_far (p := ⟨gb171, 0, none⟩) (by first | (rw [add_block]; exact hn172_0) | (show (Addr.add _ _).block ≠ _; rw [add_block]; exact hn172_0) | exact hn172_0) (.int .u64 t168)).trans hx172_1
                      replace hx172_0 := (cell_far (p := ⟨gb171, 1, none⟩) (by first | (rw [add_block]; exact hn172_1) | (show (Addr.add _ _).block ≠ _; rw [add_block]; exact hn172_1) | exact hn172_1) (.int .u64 t169)).trans hx172_0
                      replace hx172_1 := (cell_far (p := ⟨gb171, 1, none⟩) (by first | (rw [add_block]; exact hn172_1) | (show (Addr.add _ _).block ≠ _; rw [add_block]; exact hn172_1) | exact hn172_1) (.int .u64 t169)).trans hx172_1
                      clear hn172_0
                      clear hn172_1
                      replace p172 := eq_true p172
                      replace q172 := eq_true q172
                      try go_wp2
                      go_ret
                      exact ⟨by first | rfl | (simp [errW_none, errW_some] <;> rfl) | (simp [*, errW_none, errW_some] <;> rfl), by repeat (first | (with_reducible first | exact HB.out | apply below_alloc | apply pw_below_drewN | apply below_drew1 | refine below_set ?_ GE165.out | refine below_set ?_ GE171.out) | exact HB.out)⟩
                    · rw [if_neg c15] at H
                      have c15b0 : (t170 != (decide (((rd_T41 l1 x9_1).f1) ≤ (IntKind.u64.wrap (x7_1 - x8_1))))) = false := by simpa using c15
                      (try (have c15b1 : decide (t170 = (decide (((rd_T41 l1 x9_1).f1) ≤ (IntKind.u64.wrap (x7_1 - x8_1))))) = true := by simpa using c15))
                      (try (have c15b2 : (t170 == (decide (((rd_T41 l1 x9_1).f1) ≤ (IntKind.u64.wrap (x7_1 - x8_1))))) = true := by simpa using c15))
                      clear c15
                      by_cases c22 : t170 = true
                      · subst c22
                        have H1 : (wigwaglaw19_CreditHolds.j2 kj6 l1 t164 x7_1 (IntKind.u64.wrap (x8_1 + ((rd_T41 l1 x9_1).f1))) x9_1 t168 t169) = some r := by rw [if_pos rfl] at H; exact H
                        clear H
                        have H := H1
                        clear H1
                        have H' := Aside0.mk H
                        clear H
                        try go_wp2
                        have n0_ := Aside0.mk (blk_drew BK165.out)
                        have n1_ := Aside0.mk (below_drew1 HB.out)
                        clear BK165
                        clear HB
                        have BK165 := n0_
                        have HB := n1_
                        clear n0_ n1_
                        have p167 : 0 ≤ (x9_1 : Int) := of_decide_eq_true (by first | (with_reducible assumption) | assumption)
                        have q167 : x9_1 < (l1.length : Int) := of_decide_eq_true (by first | (with_reducible assumption) | assumption)
                        obtain ⟨ad167, e167, hx167_0, hx167_1⟩ := at_T41 HR1.out x9_1 p167 q167
                        have hw167_1 := hx167_1
                        have hw167_0 := hx167_0
                        obtain rfl : ad166 = ad167 := (by injection e167)
                        replace hx167_0 := (HB.out.cell (World.block_lt_of_cell? w _ hx167_0)).trans hx167_0
                        replace hx167_1 := (HB.out.cell (World.block_lt_of_cell? w _ hx167_1)).trans hx167_1
                        replace p167 := eq_true p167
                        replace q167 := eq_true q167
                        refine start_ (n := 13) (S := fun w' => w'.cell? ⟨gb165, 0, none⟩ = some (.int .u64 x166000_1) ∧ w'.cell? ⟨gb165, 1, none⟩ = some (.int .u64 x166001_1) ∧ w'.cell? (ad166.add ((x9_1).toNat * 2)) = some (.int .i64 ((rd_T41 l1 x9_1).f0)) ∧ w'.cell? ⟨(ad166.add ((x9_1).toNat * 2)).block, (ad166.add ((x9_1).toNat * 2)).off + 1, none⟩ = some (.int .u64 ((rd_T41 l1 x9_1).f1))) (ds := []) #[false, false, false, false, false, false, false, false, false, false, false, false, false] (by kernel_rfl) rfl rfl ⟨(blk_cell BK165.out 0).trans rfl, (blk_cell BK165.out 1).trans rfl, ((HB.out.cell (World.block_lt_of_cell? w _ hw167_0)).trans hw167_0), ((HB.out.cell (World.block_lt_of_cell? w _ hw167_1)).trans hw167_1)⟩ (fun hHeld => ?_); refine with_tabW wigwaglaw19_CreditHolds.tab10 wigwaglaw19_CreditHolds.bits10 (fun HT_ HW_ => ?_)
                        generalize wc.drew = w23 at BK165 HB hx167_0 hx167_1 hHeld ⊢
                        refine pure_ (i := 1) (N := some 35) (v := ?_) (a' := ?_) #[false, true, false, false, false, false, false, false, false, false, false, false, false] rfl rfl (any_of HT_.out (by kernel_rfl)) (fun _ _ _ h => h) (Or.inl ⟨by rfl, ?_⟩) ?_ ?_
                        rotate_left
                        · intro w'
                          go_simp
                          with_reducible rfl
                        rotate_left
                        · simp only [Act.put, List.setIfInBounds_toArray, List.set_cons_zero, List.set_cons_succ, i64_w, i32_w]
                          rfl
                        refine pure_ (i := 2) (N := some 36) (v := ?_) (a' := ?_) #[false, true, true, false, false, false, false, false, false, false, false, false, false] rfl rfl (any_of HT_.out (by kernel_rfl)) (fun _ _ _ h => h) (Or.inl ⟨by rfl, ?_⟩) ?_ ?_
                        rotate_left
                        · intro w'
                          go_simp
                          with_reducible rfl
                        rotate_left
                        · simp only [Act.put, List.setIfInBounds_toArray, List.set_cons_zero, List.set_cons_succ, i64_w, i32_w]
                          rfl
                        refine pure_ (i := 3) (N := some 37) (v := ?_) (a' := ?_) #[false, true, true, true, false, false, false, false, false, false, false, false, false] rfl rfl (any_of HT_.out (by kernel_rfl)) (fun _ _ _ h => h) (Or.inl ⟨by rfl, ?_⟩) ?_ ?_
                        rotate_left
                        · intro w'
                          go_simp
                          with_reducible rfl
                        rotate_left
                        · simp only [Act.put, List.setIfInBounds_toArray, List.set_cons_zero, List.set_cons_succ, i64_w, i32_w]
                          rfl
                        refine pure_ (i := 4) (N := some 38) (v := ?_) (a' := ?_) #[false, true, true, true, true, false, false, false, false, false, false, false, false] rfl rfl (any_of HT_.out (by kernel_rfl)) (fun _ _ _ h => h) (Or.inl ⟨by rfl, ?_⟩) ?_ ?_
                        rotate_left
                        · intro w'
                          go_simp
                          with_reducible rfl
                        rotate_left
                        · simp only [Act.put, List.setIfInBounds_toArray, List.set_cons_zero, List.set_cons_succ, i64_w, i32_w]
                          rfl
                        refine take_ (i := 0) (N := some 34) (v := ?_) (a' := ?_) #[true, true, true, true, true, false, false, false, false, false, false, false, false] rfl rfl (take_ofW HT_.out HW_.out (by kernel_rfl)) (fun _ _ _ h => h) (Or.inl ⟨by rfl, ?_⟩) hHeld ?_ ?_
                        rotate_left
                        · rintro w' ⟨s0, s1, s2, s3⟩
                          go_simp
                          with_reducible rfl
                        rotate_left
                        · simp only [Act.put, List.setIfInBounds_toArray, List.set_cons_zero, List.set_cons_succ, i64_w, i32_w]
                          rfl
                        refine take_ (i := 5) (N := some 39) (v := ?_) (a' := ?_) #[true, true, true, true, true, true, false, false, false, false, false, false, false] rfl rfl (take_ofW HT_.out HW_.out (by kernel_rfl)) (fun _ _ _ h => h) (Or.inl ⟨by rfl, ?_⟩) hHeld ?_ ?_
                        rotate_left
                        · rintro w' ⟨s0, s1, s2, s3⟩
                          go_simp
                          with_reducible rfl
                        rotate_left
                        · simp only [Act.put, List.setIfInBounds_toArray, List.set_cons_zero, List.set_cons_succ, i64_w, i32_w]
                          rfl
                        refine join_ (σ := Nat) 2 #[true, true, true, true, true, true, true, true, true, true, true, false, false] (fun s_ => [(40, .tuple #[.agg #[.int .u64 t168, .int .u64 t169], .bool true]), (10, .pointer (some ⟨s_, 0, none⟩)), (33, .tuple #[.agg #[.int .u64 t168, .int .u64 t169], .bool true]), (41, .agg #[.int .u64 t168, .int .u64 t169]), (42, .bool true)]) (fun s_ w' => (w'.cell? ⟨gb165, 0, none⟩ = some (.int .u64 x166000_1) ∧ w'.cell? ⟨gb165, 1, none⟩ = some (.int .u64 x166001_1) ∧ w'.cell? (ad166.add ((x9_1).toNat * 2)) = some (.int .i64 ((rd_T41 l1 x9_1).f0)) ∧ w'.cell? ⟨(ad166.add ((x9_1).toNat * 2)).block, (ad166.add ((x9_1).toNat * 2)).off + 1, none⟩ = some (.int .u64 ((rd_T41 l1 x9_1).f1))) ∧ (w'.heap[gb165]? = some (.cells #[.int .u64 x166000_1, .int .u64 x166001_1] 25 (0, 0))) ∧ (w'.heap[s_]? = some (.cells #[.int .u64 0, .int .u64 0] 25 (0, 0))) ∧ (w.heap.size ≤ s_) ∧ (w.heap.size ≤ s_) ∧ (gb165 ≠ s_) ∧ (s_ ≠ gb165) ∧ (Below w.heap.size w w')) ?_ ?_
                        rotate_left
                        · intro hCont
                          refine two_ (i := 6) (j := 10) (Ni := some 40) (Nj := some 10) #[true, true, true, true, true, true, true, false, false, false, false, false, false] #[true, true, true, true, true, true, false, false, false, false, true, false, false] rfl rfl rfl rfl (two_of HT_.out (by kernel_rfl)) (by decide) (by decide) (fun K hK => ?_) (fun K hK => ?_)
                          · skip
                            refine goes_ Try.func10 (by kernel_rfl) rfl #[.agg #[.int .u64 x166000_1, .int .u64 x166001_1], .int .u64 ((rd_T41 l1 x9_1).f1)] (by rfl) rfl rfl (by (try simp only [List.map_toArray, List.map_cons, List.map_nil]); first | done | rfl | (simp only [List.length_drop, List.length_take]; rfl)) ?_
                            with_reducible refine (credit_Use.calls x166000_1 x166001_1 ((rd_T41 l1 x9_1).f1) t168 t169 true _ A14.out).mono ?_
                            rintro e w24 ⟨rfl, hb⟩
                            refine ⟨_, rfl, ?_⟩
                            have n0_ := Aside0.mk (blk_below (g := gb165) (o := .cells #[.int .u64 x166000_1, .int .u64 x166001_1] 25 (0, 0)) (by (with_reducible repeat (first | refine blk_drewN ?_ _ | refine blk_drew ?_ | refine blk_alloc ?_ _)); exact BK165.out) hb)
                            have n1_ := Aside0.mk (below_step (by repeat (first | (with_reducible first | exact HB.out | apply below_alloc | apply pw_below_drewN | apply below_drew1 | refine below_set ?_ GE165.out) | exact HB.out)) hb)
                            clear BK165
                            clear HB
                            have BK165 := n0_
                            have HB := n1_
                            clear n0_ n1_
                            (try clear hb)
                            (try clear hb2)
                            (try clear hk)
                            (try clear hi)
                            refine hK.out _ _ ⟨(blk_cell BK165.out 0).trans rfl, (blk_cell BK165.out 1).trans rfl, ((HB.out.cell (World.block_lt_of_cell? w _ hw167_0)).trans hw167_0), ((HB.out.cell (World.block_lt_of_cell? w _ hw167_1)).trans hw167_1)⟩ (fun hHeld => ?_)
                            clear hK K
                            refine norm_ (a' := ?_) ?_ ?_
                            rotate_left
                            · show Act.put _ (some 40) _ = _
                              simp only [Act.put, List.setIfInBounds_toArray, List.set_cons_zero, List.set_cons_succ, i64_w, i32_w]
                              rfl
                            refine pure_ (i := 7) (N := some 33) (v := ?_) (a' := ?_) #[true, true, true, true, true, true, true, true, false, false, false, false, false] rfl rfl (any_of HT_.out (by kernel_rfl)) (fun _ _ _ h => h) (Or.inl ⟨by rfl, ?_⟩) ?_ ?_
                            rotate_left
                            · intro w'
                              go_simp
                              with_reducible rfl
                            rotate_left
                            · simp only [Act.put, List.setIfInBounds_toArray, List.set_cons_zero, List.set_cons_succ, i64_w, i32_w]
                              rfl
                            refine pure_ (i := 8) (N := some 41) (v := ?_) (a' := ?_) #[true, true, true, true, true, true, true, true, true, false, false, false, false] rfl rfl (any_of HT_.out (by kernel_rfl)) (fun _ _ _ h => h) (Or.inl ⟨by rfl, ?_⟩) ?_ ?_
                            rotate_left
                            · intro w'
                              go_simp
                              with_reducible rfl
                            rotate_left
                            · simp only [Act.put, List.setIfInBounds_toArray, List.set_cons_zero, List.set_cons_succ, i64_w, i32_w]
                              rfl
                            refine pure_ (i := 9) (N := some 42) (v := ?_) (a' := ?_) #[true, true, true, true, true, true, true, true, true, true, false, false, false] rfl rfl (any_of HT_.out (by kernel_rfl)) (fun _ _ _ h => h) (Or.inl ⟨by rfl, ?_⟩) ?_ ?_
                            rotate_left
                            · intro w'
                              go_simp
                              with_reducible rfl
                            rotate_left
                            · simp only [Act.put, List.setIfInBounds_toArray, List.set_cons_zero, List.set_cons_succ, i64_w, i32_w]
                              rfl
                            refine one_ (i := 10) (N := some 10) #[true, true, true, true, true, true, true, true, true, true, true, false, false] rfl rfl (one_of HT_.out (by kernel_rfl)) (by decide) (fun K hK => ?_)
                            refine box_step ?hg (N := 10) ?hd (cs := #[.int .u64 0, .int .u64 0]) (t := 25) ?hr ?_; (case hd => rfl); (case hg => rfl); (case hr => first | (go_simp; done) | (go_simp; rfl))
                            intro gb171 hg w25 hbox hb
                            have n0_ := Aside0.mk (blk_below (g := gb165) (o := .cells #[.int .u64 x166000_1, .int .u64 x166001_1] 25 (0, 0)) (by (with_reducible repeat (first | refine blk_drewN ?_ _ | refine blk_drew ?_ | refine blk_alloc ?_ _)); exact BK165.out) hb)
                            have n1_ := Aside0.mk (below_step (by repeat (first | (with_reducible first | exact HB.out | apply below_alloc | apply pw_below_drewN | apply below_drew1 | refine below_set ?_ GE165.out) | exact HB.out)) hb)
                            have n2_ := Aside0.mk (hbox)
                            have n3_ := Aside0.mk ((by rw [hg]; exact (below_size (by repeat (first | (with_reducible first | exact HB.out | apply below_alloc | apply pw_below_drewN | apply below_drew1 | refine below_set ?_ GE165.out) | exact HB.out))) : w.heap.size ≤ gb171))
                            have n4_ := Aside0.mk ((by rw [hg]; exact (below_size (by repeat (first | (with_reducible first | exact HB.out | apply below_alloc | apply pw_below_drewN | apply below_drew1 | refine below_set ?_ GE165.out) | exact HB.out))) : w.heap.size ≤ gb171))
                            have n5_ := Aside0.mk ((by rw [hg]; exact Nat.ne_of_lt (blk_lt (g := gb165) (o := .cells #[.int .u64 x166000_1, .int .u64 x166001_1] 25 (0, 0)) (by (with_reducible repeat (first | refine blk_drewN ?_ _ | refine blk_drew ?_ | refine blk_alloc ?_ _)); exact BK165.out)) : gb165 ≠ gb171))
                            have n6_ := Aside0.mk ((by rw [hg]; exact Nat.ne_of_gt (blk_lt (g := gb165) (o := .cells #[.int .u64 x166000_1, .int .u64 x166001_1] 25 (0, 0)) (by (with_reducible repeat (first | refine blk_drewN ?_ _ | refine blk_drew ?_ | refine blk_alloc ?_ _)); exact BK165.out)) : gb171 ≠ gb165))
                            clear BK165
                            clear HB
                            have BK165 := n0_
                            have HB := n1_
                            have BK171 := n2_
                            have GW171 := n3_
                            have GE171 := n4_
                            have NB165_171 := n5_
                            have NB171_165 := n6_
                            clear n0_ n1_ n2_ n3_ n4_ n5_ n6_
                            clear hb hbox hg
                            refine hK.out _ _ ⟨(blk_cell BK165.out 0).trans rfl, (blk_cell BK165.out 1).trans rfl, ((HB.out.cell (World.block_lt_of_cell? w _ hw167_0)).trans hw167_0), ((HB.out.cell (World.block_lt_of_cell? w _ hw167_1)).trans hw167_1)⟩ (fun hHeld => ?_)
                            clear hK K
                            refine norm_ (a' := ?_) ?_ ?_
                            rotate_left
                            · show Act.put _ (some 10) _ = _
                              simp only [Act.put, List.setIfInBounds_toArray, List.set_cons_zero, List.set_cons_succ, i64_w, i32_w]
                              rfl
                            exact norm_ (by simp only [putAll, Act.put, List.setIfInBounds_toArray, List.set_cons_zero, List.set_cons_succ]) (hCont (gb171) _ ⟨hHeld, (by (with_reducible repeat (first | refine blk_drewN ?_ _ | refine blk_drew ?_ | refine blk_alloc ?_ _)); exact BK165.out), (by (with_reducible repeat (first | refine blk_drewN ?_ _ | refine blk_drew ?_ | refine blk_alloc ?_ _)); exact BK171.out), GW171.out, GE171.out, NB165_171.out, NB171_165.out, (by repeat (first | (with_reducible first | exact HB.out | apply below_alloc | apply pw_below_drewN | apply below_drew1 | refine below_set ?_ GE165.out | refine below_set ?_ GE171.out) | exact HB.out))⟩)
                          · skip
                            refine box_step ?hg (N := 10) ?hd (cs := #[.int .u64 0, .int .u64 0]) (t := 25) ?hr ?_; (case hd => rfl); (case hg => rfl); (case hr => first | (go_simp; done) | (go_simp; rfl))
                            intro gb171 hg w24 hbox hb
                            have n0_ := Aside0.mk (blk_below (g := gb165) (o := .cells #[.int .u64 x166000_1, .int .u64 x166001_1] 25 (0, 0)) (by (with_reducible repeat (first | refine blk_drewN ?_ _ | refine blk_drew ?_ | refine blk_alloc ?_ _)); exact BK165.out) hb)
                            have n1_ := Aside0.mk (below_step (by repeat (first | (with_reducible first | exact HB.out | apply below_alloc | apply pw_below_drewN | apply below_drew1 | refine below_set ?_ GE165.out) | exact HB.out)) hb)
                            have n2_ := Aside0.mk (hbox)
                            have n3_ := Aside0.mk ((by rw [hg]; exact (below_size (by repeat (first | (with_reducible first | exact HB.out | apply below_alloc | apply pw_below_drewN | apply below_drew1 | refine below_set ?_ GE165.out) | exact HB.out))) : w.heap.size ≤ gb171))
                            have n4_ := Aside0.mk ((by rw [hg]; exact (below_size (by repeat (first | (with_reducible first | exact HB.out | apply below_alloc | apply pw_below_drewN | apply below_drew1 | refine below_set ?_ GE165.out) | exact HB.out))) : w.heap.size ≤ gb171))
                            have n5_ := Aside0.mk ((by rw [hg]; exact Nat.ne_of_lt (blk_lt (g := gb165) (o := .cells #[.int .u64 x166000_1, .int .u64 x166001_1] 25 (0, 0)) (by (with_reducible repeat (first | refine blk_drewN ?_ _ | refine blk_drew ?_ | refine blk_alloc ?_ _)); exact BK165.out)) : gb165 ≠ gb171))
                            have n6_ := Aside0.mk ((by rw [hg]; exact Nat.ne_of_gt (blk_lt (g := gb165) (o := .cells #[.int .u64 x166000_1, .int .u64 x166001_1] 25 (0, 0)) (by (with_reducible repeat (first | refine blk_drewN ?_ _ | refine blk_drew ?_ | refine blk_alloc ?_ _)); exact BK165.out)) : gb171 ≠ gb165))
                            clear BK165
                            clear HB
                            have BK165 := n0_
                            have HB := n1_
                            have BK171 := n2_
                            have GW171 := n3_
                            have GE171 := n4_
                            have NB165_171 := n5_
                            have NB171_165 := n6_
                            clear n0_ n1_ n2_ n3_ n4_ n5_ n6_
                            clear hb hbox hg
                            refine hK.out _ _ ⟨(blk_cell BK165.out 0).trans rfl, (blk_cell BK165.out 1).trans rfl, ((HB.out.cell (World.block_lt_of_cell? w _ hw167_0)).trans hw167_0), ((HB.out.cell (World.block_lt_of_cell? w _ hw167_1)).trans hw167_1)⟩ (fun hHeld => ?_)
                            clear hK K
                            refine norm_ (a' := ?_) ?_ ?_
                            rotate_left
                            · show Act.put _ (some 10) _ = _
                              simp only [Act.put, List.setIfInBounds_toArray, List.set_cons_zero, List.set_cons_succ, i64_w, i32_w]
                              rfl
                            refine one_ (i := 6) (N := some 40) #[true, true, true, true, true, true, true, false, false, false, true, false, false] rfl rfl (one_of HT_.out (by kernel_rfl)) (by decide) (fun K hK => ?_)
                            refine goes_ Try.func10 (by kernel_rfl) rfl #[.agg #[.int .u64 x166000_1, .int .u64 x166001_1], .int .u64 ((rd_T41 l1 x9_1).f1)] (by rfl) rfl rfl (by (try simp only [List.map_toArray, List.map_cons, List.map_nil]); first | done | rfl | (simp only [List.length_drop, List.length_take]; rfl)) ?_
                            with_reducible refine (credit_Use.calls x166000_1 x166001_1 ((rd_T41 l1 x9_1).f1) t168 t169 true _ A14.out).mono ?_
                            rintro e w25 ⟨rfl, hb⟩
                            refine ⟨_, rfl, ?_⟩
                            have n0_ := Aside0.mk (blk_below (g := gb165) (o := .cells #[.int .u64 x166000_1, .int .u64 x166001_1] 25 (0, 0)) (by (with_reducible repeat (first | refine blk_drewN ?_ _ | refine blk_drew ?_ | refine blk_alloc ?_ _)); exact BK165.out) hb)
                            have n1_ := Aside0.mk (blk_below (g := gb171) (o := .cells #[.int .u64 0, .int .u64 0] 25 (0, 0)) (by (with_reducible repeat (first | refine blk_drewN ?_ _ | refine blk_drew ?_ | refine blk_alloc ?_ _)); exact BK171.out) hb)
                            have n2_ := Aside0.mk (below_step (by repeat (first | (with_reducible first | exact HB.out | apply below_alloc | apply pw_below_drewN | apply below_drew1 | refine below_set ?_ GE165.out | refine below_set ?_ GE171.out) | exact HB.out)) hb)
                            clear BK165
                            clear BK171
                            clear HB
                            have BK165 := n0_
                            have BK171 := n1_
                            have HB := n2_
                            clear n0_ n1_ n2_
                            (try clear hb)
                            (try clear hb2)
                            (try clear hk)
                            (try clear hi)
                            refine hK.out _ _ ⟨(blk_cell BK165.out 0).trans rfl, (blk_cell BK165.out 1).trans rfl, ((HB.out.cell (World.block_lt_of_cell? w _ hw167_0)).trans hw167_0), ((HB.out.cell (World.block_lt_of_cell? w _ hw167_1)).trans hw167_1)⟩ (fun hHeld => ?_)
                            clear hK K
                            refine norm_ (a' := ?_) ?_ ?_
                            rotate_left
                            · show Act.put _ (some 40) _ = _
                              simp only [Act.put, List.setIfInBounds_toArray, List.set_cons_zero, List.set_cons_succ, i64_w, i32_w]
                              rfl
                            refine pure_ (i := 7) (N := some 33) (v := ?_) (a' := ?_) #[true, true, true, true, true, true, true, true, false, false, true, false, false] rfl rfl (any_of HT_.out (by kernel_rfl)) (fun _ _ _ h => h) (Or.inl ⟨by rfl, ?_⟩) ?_ ?_
                            rotate_left
                            · intro w'
                              go_simp
                              with_reducible rfl
                            rotate_left
                            · simp only [Act.put, List.setIfInBounds_toArray, List.set_cons_zero, List.set_cons_succ, i64_w, i32_w]
                              rfl
                            refine pure_ (i := 8) (N := some 41) (v := ?_) (a' := ?_) #[true, true, true, true, true, true, true, true, true, false, true, false, false] rfl rfl (any_of HT_.out (by kernel_rfl)) (fun _ _ _ h => h) (Or.inl ⟨by rfl, ?_⟩) ?_ ?_
                            rotate_left
                            · intro w'
                              go_simp
                              with_reducible rfl
                            rotate_left
                            · simp only [Act.put, List.setIfInBounds_toArray, List.set_cons_zero, List.set_cons_succ, i64_w, i32_w]
                              rfl
                            refine pure_ (i := 9) (N := some 42) (v := ?_) (a' := ?_) #[true, true, true, true, true, true, true, true, true, true, true, false, false] rfl rfl (any_of HT_.out (by kernel_rfl)) (fun _ _ _ h => h) (Or.inl ⟨by rfl, ?_⟩) ?_ ?_
                            rotate_left
                            · intro w'
                              go_simp
                              with_reducible rfl
                            rotate_left
                            · simp only [Act.put, List.setIfInBounds_toArray, List.set_cons_zero, List.set_cons_succ, i64_w, i32_w]
                              rfl
                            exact norm_ (by simp only [putAll, Act.put, List.setIfInBounds_toArray, List.set_cons_zero, List.set_cons_succ]) (hCont (gb171) _ ⟨hHeld, (by (with_reducible repeat (first | refine blk_drewN ?_ _ | refine blk_drew ?_ | refine blk_alloc ?_ _)); exact BK165.out), (by (with_reducible repeat (first | refine blk_drewN ?_ _ | refine blk_drew ?_ | refine blk_alloc ?_ _)); exact BK171.out), GW171.out, GE171.out, NB165_171.out, NB171_165.out, (by repeat (first | (with_reducible first | exact HB.out | apply below_alloc | apply pw_below_drewN | apply below_drew1 | refine below_set ?_ GE165.out | refine below_set ?_ GE171.out) | exact HB.out))⟩)
                        rintro gb171 w26 ⟨hS_, h0_, h1_, h2_, h3_, h4_, h5_, h6_⟩
                        have n0_ : Aside0 (w26.heap[gb165]? = some (.cells #[.int .u64 x166000_1, .int .u64 x166001_1] 25 (0, 0))) := ⟨h0_⟩
                        have n1_ : Aside0 (w26.heap[gb171]? = some (.cells #[.int .u64 0, .int .u64 0] 25 (0, 0))) := ⟨h1_⟩
                        have n2_ : Aside0 (w.heap.size ≤ gb171) := ⟨h2_⟩
                        have n3_ : Aside0 (w.heap.size ≤ gb171) := ⟨h3_⟩
                        have n4_ : Aside0 (gb165 ≠ gb171) := ⟨h4_⟩
                        have n5_ : Aside0 (gb171 ≠ gb165) := ⟨h5_⟩
                        have n6_ : Aside0 (Below w.heap.size w w26) := ⟨h6_⟩
                        clear BK165
                        clear HB
                        clear h0_ h1_ h2_ h3_ h4_ h5_ h6_
                        have BK165 := n0_
                        have BK171 := n1_
                        have GW171 := n2_
                        have GE171 := n3_
                        have NB165_171 := n4_
                        have NB171_165 := n5_
                        have HB := n6_
                        clear n0_ n1_ n2_ n3_ n4_ n5_ n6_
                        have hHeld : w26.cell? ⟨gb165, 0, none⟩ = some (.int .u64 x166000_1) ∧ w26.cell? ⟨gb165, 1, none⟩ = some (.int .u64 x166001_1) ∧ w26.cell? (ad166.add ((x9_1).toNat * 2)) = some (.int .i64 ((rd_T41 l1 x9_1).f0)) ∧ w26.cell? ⟨(ad166.add ((x9_1).toNat * 2)).block, (ad166.add ((x9_1).toNat * 2)).off + 1, none⟩ = some (.int .u64 ((rd_T41 l1 x9_1).f1)) := hS_
                        refine norm_ (a' := ?_) ?_ ?_
                        rotate_left
                        · simp only [putAll, Act.put, List.setIfInBounds_toArray, List.set_cons_zero, List.set_cons_succ]
                          rfl
                        refine one_ (i := 11) (N := none) #[true, true, true, true, true, true, true, true, true, true, true, true, false] rfl rfl (one_of HT_.out (by kernel_rfl)) (by decide) (fun K hK => ?_)
                        have hs27 : w26.cell? ⟨gb171, 0, none⟩ = some (.int .u64 0) := (blk_cell BK171.out 0).trans rfl
                        have hfs27 := blk_frozen BK171.out 0
                        have hns27_0 := NB165_171.out
                        have hms27_0 := NB171_165.out
                        have hs28 : w26.cell? ⟨gb171, 1, none⟩ = some (.int .u64 0) := (blk_cell BK171.out 1).trans rfl
                        have hfs28 := blk_frozen BK171.out 1
                        have hns28_0 := NB165_171.out
                        have hms28_0 := NB171_165.out
                        refine skip_ (w1 := ?_) (by rfl) rfl ?_ ?_
                        rotate_left
                        · go_simp
                          rfl
                        refine hK.out _ _ ⟨((cell_far (p := ⟨gb171, _, none⟩) NB165_171.out _).trans (((cell_far (p := ⟨gb171, _, none⟩) NB165_171.out _).trans (hHeld.1)))), ((cell_far (p := ⟨gb171, _, none⟩) NB165_171.out _).trans (((cell_far (p := ⟨gb171, _, none⟩) NB165_171.out _).trans (hHeld.2.1)))), ((cell_far (p := ⟨gb171, _, none⟩) (by first | exact Nat.ne_of_lt (Nat.lt_of_lt_of_le (by have := World.block_lt_of_cell? _ _ hw167_0; first | rwa [add_block] at this | exact this) GW171.out) | (rw [add_block]; exact Nat.ne_of_lt (Nat.lt_of_lt_of_le (by have := World.block_lt_of_cell? _ _ hw167_0; first | rwa [add_block] at this | exact this) GW171.out)) | (show (Addr.add _ _).block ≠ _; rw [add_block]; exact Nat.ne_of_lt (Nat.lt_of_lt_of_le (by have := World.block_lt_of_cell? _ _ hw167_0; first | rwa [add_block] at this | exact this) GW171.out)) | (dsimp only; exact Nat.ne_of_lt (Nat.lt_of_lt_of_le (by have := World.block_lt_of_cell? _ _ hw167_0; first | rwa [add_block] at this | exact this) GW171.out))) _).trans (((cell_far (p := ⟨gb171, _, none⟩) (by first | exact Nat.ne_of_lt (Nat.lt_of_lt_of_le (by have := World.block_lt_of_cell? _ _ hw167_0; first | rwa [add_block] at this | exact this) GW171.out) | (rw [add_block]; exact Nat.ne_of_lt (Nat.lt_of_lt_of_le (by have := World.block_lt_of_cell? _ _ hw167_0; first | rwa [add_block] at this | exact this) GW171.out)) | (show (Addr.add _ _).block ≠ _; rw [add_block]; exact Nat.ne_of_lt (Nat.lt_of_lt_of_le (by have := World.block_lt_of_cell? _ _ hw167_0; first | rwa [add_block] at this | exact this) GW171.out)) | (dsimp only; exact Nat.ne_of_lt (Nat.lt_of_lt_of_le (by have := World.block_lt_of_cell? _ _ hw167_0; first | rwa [add_block] at this | exact this) GW171.out))) _).trans (hHeld.2.2.1)))), ((cell_far (p := ⟨gb171, _, none⟩) (by first | exact Nat.ne_of_lt (Nat.lt_of_lt_of_le (by have := World.block_lt_of_cell? _ _ hw167_1; first | rwa [add_block] at this | exact this) GW171.out) | (rw [add_block]; exact Nat.ne_of_lt (Nat.lt_of_lt_of_le (by have := World.block_lt_of_cell? _ _ hw167_1; first | rwa [add_block] at this | exact this) GW171.out)) | (show (Addr.add _ _).block ≠ _; rw [add_block]; exact Nat.ne_of_lt (Nat.lt_of_lt_of_le (by have := World.block_lt_of_cell? _ _ hw167_1; first | rwa [add_block] at this | exact this) GW171.out)) | (dsimp only; exact Nat.ne_of_lt (Nat.lt_of_lt_of_le (by have := World.block_lt_of_cell? _ _ hw167_1; first | rwa [add_block] at this | exact this) GW171.out))) _).trans (((cell_far (p := ⟨gb171, _, none⟩) (by first | exact Nat.ne_of_lt (Nat.lt_of_lt_of_le (by have := World.block_lt_of_cell? _ _ hw167_1; first | rwa [add_block] at this | exact this) GW171.out) | (rw [add_block]; exact Nat.ne_of_lt (Nat.lt_of_lt_of_le (by have := World.block_lt_of_cell? _ _ hw167_1; first | rwa [add_block] at this | exact this) GW171.out)) | (show (Addr.add _ _).block ≠ _; rw [add_block]; exact Nat.ne_of_lt (Nat.lt_of_lt_of_le (by have := World.block_lt_of_cell? _ _ hw167_1; first | rwa [add_block] at this | exact this) GW171.out)) | (dsimp only; exact Nat.ne_of_lt (Nat.lt_of_lt_of_le (by have := World.block_lt_of_cell? _ _ hw167_1; first | rwa [add_block] at this | exact this) GW171.out))) _).trans (hHeld.2.2.2))))⟩ (fun hHeld => ?_)
                        clear hK K
                        refine pure_ (i := 12) (N := some 11) (v := ?_) (a' := ?_) #[true, true, true, true, true, true, true, true, true, true, true, true, true] rfl rfl (any_of HT_.out (by kernel_rfl)) (fun _ _ _ h => h) (Or.inl ⟨by rfl, ?_⟩) ?_ ?_
                        rotate_left
                        · intro w'
                          go_simp
                          with_reducible rfl
                        rotate_left
                        · simp only [Act.put, List.setIfInBounds_toArray, List.set_cons_zero, List.set_cons_succ, i64_w, i32_w]
                          rfl
                        refine done_ (done_of HT_.out (by kernel_rfl)) ?_
                        have p172 : 0 ≤ (x9_1 : Int) := of_decide_eq_true (by first | (with_reducible assumption) | assumption)
                        have q172 : x9_1 < (l1.length : Int) := of_decide_eq_true (by first | (with_reducible assumption) | assumption)
                        obtain ⟨ad172, e172, hx172_0, hx172_1⟩ := at_T41 HR1.out x9_1 p172 q172
                        obtain rfl : ad166 = ad172 := (by injection e172)
                        have hn172_0 : ad166.block ≠ gb171 := Nat.ne_of_lt (Nat.lt_of_lt_of_le (by have := World.block_lt_of_cell? _ _ hx172_0; first | rwa [add_block] at this | exact this) GW171.out)
                        have hn172_1 : ad166.block ≠ gb171 := Nat.ne_of_lt (Nat.lt_of_lt_of_le (by have := World.block_lt_of_cell? _ _ hx172_0; first | rwa [add_block] at this | exact this) GW171.out)
                        replace hx172_0 := (HB.out.cell (World.block_lt_of_cell? w _ hx172_0)).trans hx172_0
                        replace hx172_1 := (HB.out.cell (World.block_lt_of_cell? w _ hx172_1)).trans hx172_1
                        replace hx172_0 := (cell_far (p := ⟨gb171, 0, none⟩) (by first | (rw [add_block]; exact hn172_0) | (show (Addr.add _ _).block ≠ _; rw [add_block]; exact hn172_0) | exact hn172_0) (.int .u64 t168)).trans hx172_0
                        replace hx172_1 := (cell_far (p := ⟨gb171, 0, none⟩) (by first | (rw [add_block]; exact hn172_0) | (show (Addr.add _ _).block ≠ _; rw [add_block]; exact hn172_0) | exact hn172_0) (.int .u64 t168)).trans hx172_1
                        replace hx172_0 := (cell_far (p := ⟨gb171, 1, none⟩) (by first | (rw [add_block]; exact hn172_1) | (show (Addr.add _ _).block ≠ _; rw [add_block]; exact hn172_1) | exact hn172_1) (.int .u64 t169)).trans hx172_0
                        replace hx172_1 := (cell_far (p := ⟨gb171, 1, none⟩) (by first | (rw [add_block]; exact hn172_1) | (show (Addr.add _ _).block ≠ _; rw [add_block]; exact hn172_1) | exact hn172_1) (.int .u64 t169)).trans hx172_1
                        clear hn172_0
                        clear hn172_1
                        replace p172 := eq_true p172
                        replace q172 := eq_true q172
                        have p173 : 0 ≤ (x9_1 : Int) := of_decide_eq_true (by first | (with_reducible assumption) | assumption)
                        have q173 : x9_1 < (l1.length : Int) := of_decide_eq_true (by first | (with_reducible assumption) | assumption)
                        obtain ⟨ad173, e173, hx173_0, hx173_1⟩ := at_T41 HR1.out x9_1 p173 q173
                        obtain rfl : ad166 = ad173 := (by injection e173)
                        have hn173_0 : ad166.block ≠ gb171 := Nat.ne_of_lt (Nat.lt_of_lt_of_le (by have := World.block_lt_of_cell? _ _ hx173_0; first | rwa [add_block] at this | exact this) GW171.out)
                        have hn173_1 : ad166.block ≠ gb171 := Nat.ne_of_lt (Nat.lt_of_lt_of_le (by have := World.block_lt_of_cell? _ _ hx173_0; first | rwa [add_block] at this | exact this) GW171.out)
                        replace hx173_0 := (HB.out.cell (World.block_lt_of_cell? w _ hx173_0)).trans hx173_0
                        replace hx173_1 := (HB.out.cell (World.block_lt_of_cell? w _ hx173_1)).trans hx173_1
                        replace hx173_0 := (cell_far (p := ⟨gb171, 0, none⟩) (by first | (rw [add_block]; exact hn173_0) | (show (Addr.add _ _).block ≠ _; rw [add_block]; exact hn173_0) | exact hn173_0) (.int .u64 t168)).trans hx173_0
                        replace hx173_1 := (cell_far (p := ⟨gb171, 0, none⟩) (by first | (rw [add_block]; exact hn173_0) | (show (Addr.add _ _).block ≠ _; rw [add_block]; exact hn173_0) | exact hn173_0) (.int .u64 t168)).trans hx173_1
                        replace hx173_0 := (cell_far (p := ⟨gb171, 1, none⟩) (by first | (rw [add_block]; exact hn173_1) | (show (Addr.add _ _).block ≠ _; rw [add_block]; exact hn173_1) | exact hn173_1) (.int .u64 t169)).trans hx173_0
                        replace hx173_1 := (cell_far (p := ⟨gb171, 1, none⟩) (by first | (rw [add_block]; exact hn173_1) | (show (Addr.add _ _).block ≠ _; rw [add_block]; exact hn173_1) | exact hn173_1) (.int .u64 t169)).trans hx173_1
                        clear hn173_0
                        clear hn173_1
                        replace p173 := eq_true p173
                        replace q173 := eq_true q173
                        have hnb29 := NB171_165.out
                        have hnc29 := NB165_171.out
                        have hcz30_0 : w26.cell? ⟨gb171, 0, none⟩ = some (.int .u64 0) := (blk_cell BK171.out 0).trans rfl
                        have hcz30_1 : w26.cell? ⟨gb171, 1, none⟩ = some (.int .u64 0) := (blk_cell BK171.out 1).trans rfl
                        have hfz30_0 := blk_frozen BK171.out 0
                        have hfz30_1 := blk_frozen BK171.out 1
                        have hcz31_0 : w26.cell? ⟨gb165, 0, none⟩ = some (.int .u64 x166000_1) := (blk_cell BK165.out 0).trans rfl
                        have hcz31_1 : w26.cell? ⟨gb165, 1, none⟩ = some (.int .u64 x166001_1) := (blk_cell BK165.out 1).trans rfl
                        have hfz31_0 := blk_frozen BK165.out 0
                        have hfz31_1 := blk_frozen BK165.out 1
                        try go_wp2
                        go_meet
                        case rel => exact ⟨_, (x7_1), (IntKind.u64.wrap (x8_1 + ((rd_T41 l1 x9_1).f1))), (t168), (t169), (by first | rfl | (simp; done) | (simp [*]; done)), (by first | rfl | (simp; done) | (simp [*]; done)), H', ⟨by have := HK1.out; have := HJ6.out; first | omega | exact Nat.le_refl _⟩, ⟨by (with_reducible repeat (first | refine blk_drewN ?_ _ | refine blk_drew ?_ | refine blk_alloc ?_ _)); refine blk_put (cs := #[.int .u64 t168, .int .u64 x166001_1]) ?_ 1 _ rfl; (with_reducible repeat (first | refine blk_drewN ?_ _ | refine blk_drew ?_ | refine blk_alloc ?_ _)); refine blk_put (cs := #[.int .u64 x166000_1, .int .u64 x166001_1]) ?_ 0 _ rfl; (with_reducible repeat (first | refine blk_drewN ?_ _ | refine blk_drew ?_ | refine blk_alloc ?_ _)); refine blk_far ?_ NB165_171.out _; (with_reducible repeat (first | refine blk_drewN ?_ _ | refine blk_drew ?_ | refine blk_alloc ?_ _)); refine blk_far ?_ NB165_171.out _; (with_reducible repeat (first | refine blk_drewN ?_ _ | refine blk_drew ?_ | refine blk_alloc ?_ _)); exact BK165.out⟩, ⟨by repeat (first | (with_reducible first | exact HB.out | apply below_alloc | apply pw_below_drewN | apply below_drew1 | refine below_set ?_ GE165.out | refine below_set ?_ GE171.out) | exact HB.out)⟩⟩
                      · replace c22 := Bool.eq_false_iff.mpr c22
                        subst c22
                        have H1 : (wigwaglaw19_CreditHolds.j2 kj6 l1 t164 x7_1 x8_1 x9_1 t168 t169) = some r := by rw [if_neg (show ¬ (false = true) by decide)] at H; exact H
                        clear H
                        have H := H1
                        clear H1
                        have H' := Aside0.mk H
                        clear H
                        try go_wp2
                        have n0_ := Aside0.mk (blk_drew BK165.out)
                        have n1_ := Aside0.mk (below_drew1 HB.out)
                        clear BK165
                        clear HB
                        have BK165 := n0_
                        have HB := n1_
                        clear n0_ n1_
                        have p167 : 0 ≤ (x9_1 : Int) := of_decide_eq_true (by first | (with_reducible assumption) | assumption)
                        have q167 : x9_1 < (l1.length : Int) := of_decide_eq_true (by first | (with_reducible assumption) | assumption)
                        obtain ⟨ad167, e167, hx167_0, hx167_1⟩ := at_T41 HR1.out x9_1 p167 q167
                        have hw167_1 := hx167_1
                        have hw167_0 := hx167_0
                        obtain rfl : ad166 = ad167 := (by injection e167)
                        replace hx167_0 := (HB.out.cell (World.block_lt_of_cell? w _ hx167_0)).trans hx167_0
                        replace hx167_1 := (HB.out.cell (World.block_lt_of_cell? w _ hx167_1)).trans hx167_1
                        replace p167 := eq_true p167
                        replace q167 := eq_true q167
                        refine start_ (n := 13) (S := fun w' => w'.cell? ⟨gb165, 0, none⟩ = some (.int .u64 x166000_1) ∧ w'.cell? ⟨gb165, 1, none⟩ = some (.int .u64 x166001_1) ∧ w'.cell? (ad166.add ((x9_1).toNat * 2)) = some (.int .i64 ((rd_T41 l1 x9_1).f0)) ∧ w'.cell? ⟨(ad166.add ((x9_1).toNat * 2)).block, (ad166.add ((x9_1).toNat * 2)).off + 1, none⟩ = some (.int .u64 ((rd_T41 l1 x9_1).f1))) (ds := []) #[false, false, false, false, false, false, false, false, false, false, false, false, false] (by kernel_rfl) rfl rfl ⟨(blk_cell BK165.out 0).trans rfl, (blk_cell BK165.out 1).trans rfl, ((HB.out.cell (World.block_lt_of_cell? w _ hw167_0)).trans hw167_0), ((HB.out.cell (World.block_lt_of_cell? w _ hw167_1)).trans hw167_1)⟩ (fun hHeld => ?_); refine with_tabW wigwaglaw19_CreditHolds.tab10 wigwaglaw19_CreditHolds.bits10 (fun HT_ HW_ => ?_)
                        generalize wc.drew = w32 at BK165 HB hx167_0 hx167_1 hHeld ⊢
                        refine pure_ (i := 1) (N := some 35) (v := ?_) (a' := ?_) #[false, true, false, false, false, false, false, false, false, false, false, false, false] rfl rfl (any_of HT_.out (by kernel_rfl)) (fun _ _ _ h => h) (Or.inl ⟨by rfl, ?_⟩) ?_ ?_
                        rotate_left
                        · intro w'
                          go_simp
                          with_reducible rfl
                        rotate_left
                        · simp only [Act.put, List.setIfInBounds_toArray, List.set_cons_zero, List.set_cons_succ, i64_w, i32_w]
                          rfl
                        refine pure_ (i := 2) (N := some 36) (v := ?_) (a' := ?_) #[false, true, true, false, false, false, false, false, false, false, false, false, false] rfl rfl (any_of HT_.out (by kernel_rfl)) (fun _ _ _ h => h) (Or.inl ⟨by rfl, ?_⟩) ?_ ?_
                        rotate_left
                        · intro w'
                          go_simp
                          with_reducible rfl
                        rotate_left
                        · simp only [Act.put, List.setIfInBounds_toArray, List.set_cons_zero, List.set_cons_succ, i64_w, i32_w]
                          rfl
                        refine pure_ (i := 3) (N := some 37) (v := ?_) (a' := ?_) #[false, true, true, true, false, false, false, false, false, false, false, false, false] rfl rfl (any_of HT_.out (by kernel_rfl)) (fun _ _ _ h => h) (Or.inl ⟨by rfl, ?_⟩) ?_ ?_
                        rotate_left
                        · intro w'
                          go_simp
                          with_reducible rfl
                        rotate_left
                        · simp only [Act.put, List.setIfInBounds_toArray, List.set_cons_zero, List.set_cons_succ, i64_w, i32_w]
                          rfl
                        refine pure_ (i := 4) (N := some 38) (v := ?_) (a' := ?_) #[false, true, true, true, true, false, false, false, false, false, false, false, false] rfl rfl (any_of HT_.out (by kernel_rfl)) (fun _ _ _ h => h) (Or.inl ⟨by rfl, ?_⟩) ?_ ?_
                        rotate_left
                        · intro w'
                          go_simp
                          with_reducible rfl
                        rotate_left
                        · simp only [Act.put, List.setIfInBounds_toArray, List.set_cons_zero, List.set_cons_succ, i64_w, i32_w]
                          rfl
                        refine take_ (i := 0) (N := some 34) (v := ?_) (a' := ?_) #[true, true, true, true, true, false, false, false, false, false, false, false, false] rfl rfl (take_ofW HT_.out HW_.out (by kernel_rfl)) (fun _ _ _ h => h) (Or.inl ⟨by rfl, ?_⟩) hHeld ?_ ?_
                        rotate_left
                        · rintro w' ⟨s0, s1, s2, s3⟩
                          go_simp
                          with_reducible rfl
                        rotate_left
                        · simp only [Act.put, List.setIfInBounds_toArray, List.set_cons_zero, List.set_cons_succ, i64_w, i32_w]
                          rfl
                        refine take_ (i := 5) (N := some 39) (v := ?_) (a' := ?_) #[true, true, true, true, true, true, false, false, false, false, false, false, false] rfl rfl (take_ofW HT_.out HW_.out (by kernel_rfl)) (fun _ _ _ h => h) (Or.inl ⟨by rfl, ?_⟩) hHeld ?_ ?_
                        rotate_left
                        · rintro w' ⟨s0, s1, s2, s3⟩
                          go_simp
                          with_reducible rfl
                        rotate_left
                        · simp only [Act.put, List.setIfInBounds_toArray, List.set_cons_zero, List.set_cons_succ, i64_w, i32_w]
                          rfl
                        refine join_ (σ := Nat) 2 #[true, true, true, true, true, true, true, true, true, true, true, false, false] (fun s_ => [(40, .tuple #[.agg #[.int .u64 t168, .int .u64 t169], .bool false]), (10, .pointer (some ⟨s_, 0, none⟩)), (33, .tuple #[.agg #[.int .u64 t168, .int .u64 t169], .bool false]), (41, .agg #[.int .u64 t168, .int .u64 t169]), (42, .bool false)]) (fun s_ w' => (w'.cell? ⟨gb165, 0, none⟩ = some (.int .u64 x166000_1) ∧ w'.cell? ⟨gb165, 1, none⟩ = some (.int .u64 x166001_1) ∧ w'.cell? (ad166.add ((x9_1).toNat * 2)) = some (.int .i64 ((rd_T41 l1 x9_1).f0)) ∧ w'.cell? ⟨(ad166.add ((x9_1).toNat * 2)).block, (ad166.add ((x9_1).toNat * 2)).off + 1, none⟩ = some (.int .u64 ((rd_T41 l1 x9_1).f1))) ∧ (w'.heap[gb165]? = some (.cells #[.int .u64 x166000_1, .int .u64 x166001_1] 25 (0, 0))) ∧ (w'.heap[s_]? = some (.cells #[.int .u64 0, .int .u64 0] 25 (0, 0))) ∧ (w.heap.size ≤ s_) ∧ (w.heap.size ≤ s_) ∧ (gb165 ≠ s_) ∧ (s_ ≠ gb165) ∧ (Below w.heap.size w w')) ?_ ?_
                        rotate_left
                        · intro hCont
                          refine two_ (i := 6) (j := 10) (Ni := some 40) (Nj := some 10) #[true, true, true, true, true, true, true, false, false, false, false, false, false] #[true, true, true, true, true, true, false, false, false, false, true, false, false] rfl rfl rfl rfl (two_of HT_.out (by kernel_rfl)) (by decide) (by decide) (fun K hK => ?_) (fun K hK => ?_)
                          · skip
                            refine goes_ Try.func10 (by kernel_rfl) rfl #[.agg #[.int .u64 x166000_1, .int .u64 x166001_1], .int .u64 ((rd_T41 l1 x9_1).f1)] (by rfl) rfl rfl (by (try simp only [List.map_toArray, List.map_cons, List.map_nil]); first | done | rfl | (simp only [List.length_drop, List.length_take]; rfl)) ?_
                            with_reducible refine (credit_Use.calls x166000_1 x166001_1 ((rd_T41 l1 x9_1).f1) t168 t169 false _ A14.out).mono ?_
                            rintro e w33 ⟨rfl, hb⟩
                            refine ⟨_, rfl, ?_⟩
                            have n0_ := Aside0.mk (blk_below (g := gb165) (o := .cells #[.int .u64 x166000_1, .int .u64 x166001_1] 25 (0, 0)) (by (with_reducible repeat (first | refine blk_drewN ?_ _ | refine blk_drew ?_ | refine blk_alloc ?_ _)); exact BK165.out) hb)
                            have n1_ := Aside0.mk (below_step (by repeat (first | (with_reducible first | exact HB.out | apply below_alloc | apply pw_below_drewN | apply below_drew1 | refine below_set ?_ GE165.out) | exact HB.out)) hb)
                            clear BK165
                            clear HB
                            have BK165 := n0_
                            have HB := n1_
                            clear n0_ n1_
                            (try clear hb)
                            (try clear hb2)
                            (try clear hk)
                            (try clear hi)
                            refine hK.out _ _ ⟨(blk_cell BK165.out 0).trans rfl, (blk_cell BK165.out 1).trans rfl, ((HB.out.cell (World.block_lt_of_cell? w _ hw167_0)).trans hw167_0), ((HB.out.cell (World.block_lt_of_cell? w _ hw167_1)).trans hw167_1)⟩ (fun hHeld => ?_)
                            clear hK K
                            refine norm_ (a' := ?_) ?_ ?_
                            rotate_left
                            · show Act.put _ (some 40) _ = _
                              simp only [Act.put, List.setIfInBounds_toArray, List.set_cons_zero, List.set_cons_succ, i64_w, i32_w]
                              rfl
                            refine pure_ (i := 7) (N := some 33) (v := ?_) (a' := ?_) #[true, true, true, true, true, true, true, true, false, false, false, false, false] rfl rfl (any_of HT_.out (by kernel_rfl)) (fun _ _ _ h => h) (Or.inl ⟨by rfl, ?_⟩) ?_ ?_
                            rotate_left
                            · intro w'
                              go_simp
                              with_reducible rfl
                            rotate_left
                            · simp only [Act.put, List.setIfInBounds_toArray, List.set_cons_zero, List.set_cons_succ, i64_w, i32_w]
                              rfl
                            refine pure_ (i := 8) (N := some 41) (v := ?_) (a' := ?_) #[true, true, true, true, true, true, true, true, true, false, false, false, false] rfl rfl (any_of HT_.out (by kernel_rfl)) (fun _ _ _ h => h) (Or.inl ⟨by rfl, ?_⟩) ?_ ?_
                            rotate_left
                            · intro w'
                              go_simp
                              with_reducible rfl
                            rotate_left
                            · simp only [Act.put, List.setIfInBounds_toArray, List.set_cons_zero, List.set_cons_succ, i64_w, i32_w]
                              rfl
                            refine pure_ (i := 9) (N := some 42) (v := ?_) (a' := ?_) #[true, true, true, true, true, true, true, true, true, true, false, false, false] rfl rfl (any_of HT_.out (by kernel_rfl)) (fun _ _ _ h => h) (Or.inl ⟨by rfl, ?_⟩) ?_ ?_
                            rotate_left
                            · intro w'
                              go_simp
                              with_reducible rfl
                            rotate_left
                            · simp only [Act.put, List.setIfInBounds_toArray, List.set_cons_zero, List.set_cons_succ, i64_w, i32_w]
                              rfl
                            refine one_ (i := 10) (N := some 10) #[true, true, true, true, true, true, true, true, true, true, true, false, false] rfl rfl (one_of HT_.out (by kernel_rfl)) (by decide) (fun K hK => ?_)
                            refine box_step ?hg (N := 10) ?hd (cs := #[.int .u64 0, .int .u64 0]) (t := 25) ?hr ?_; (case hd => rfl); (case hg => rfl); (case hr => first | (go_simp; done) | (go_simp; rfl))
                            intro gb171 hg w34 hbox hb
                            have n0_ := Aside0.mk (blk_below (g := gb165) (o := .cells #[.int .u64 x166000_1, .int .u64 x166001_1] 25 (0, 0)) (by (with_reducible repeat (first | refine blk_drewN ?_ _ | refine blk_drew ?_ | refine blk_alloc ?_ _)); exact BK165.out) hb)
                            have n1_ := Aside0.mk (below_step (by repeat (first | (with_reducible first | exact HB.out | apply below_alloc | apply pw_below_drewN | apply below_drew1 | refine below_set ?_ GE165.out) | exact HB.out)) hb)
                            have n2_ := Aside0.mk (hbox)
                            have n3_ := Aside0.mk ((by rw [hg]; exact (below_size (by repeat (first | (with_reducible first | exact HB.out | apply below_alloc | apply pw_below_drewN | apply below_drew1 | refine below_set ?_ GE165.out) | exact HB.out))) : w.heap.size ≤ gb171))
                            have n4_ := Aside0.mk ((by rw [hg]; exact (below_size (by repeat (first | (with_reducible first | exact HB.out | apply below_alloc | apply pw_below_drewN | apply below_drew1 | refine below_set ?_ GE165.out) | exact HB.out))) : w.heap.size ≤ gb171))
                            have n5_ := Aside0.mk ((by rw [hg]; exact Nat.ne_of_lt (blk_lt (g := gb165) (o := .cells #[.int .u64 x166000_1, .int .u64 x166001_1] 25 (0, 0)) (by (with_reducible repeat (first | refine blk_drewN ?_ _ | refine blk_drew ?_ | refine blk_alloc ?_ _)); exact BK165.out)) : gb165 ≠ gb171))
                            have n6_ := Aside0.mk ((by rw [hg]; exact Nat.ne_of_gt (blk_lt (g := gb165) (o := .cells #[.int .u64 x166000_1, .int .u64 x166001_1] 25 (0, 0)) (by (with_reducible repeat (first | refine blk_drewN ?_ _ | refine blk_drew ?_ | refine blk_alloc ?_ _)); exact BK165.out)) : gb171 ≠ gb165))
                            clear BK165
                            clear HB
                            have BK165 := n0_
                            have HB := n1_
                            have BK171 := n2_
                            have GW171 := n3_
                            have GE171 := n4_
                            have NB165_171 := n5_
                            have NB171_165 := n6_
                            clear n0_ n1_ n2_ n3_ n4_ n5_ n6_
                            clear hb hbox hg
                            refine hK.out _ _ ⟨(blk_cell BK165.out 0).trans rfl, (blk_cell BK165.out 1).trans rfl, ((HB.out.cell (World.block_lt_of_cell? w _ hw167_0)).trans hw167_0), ((HB.out.cell (World.block_lt_of_cell? w _ hw167_1)).trans hw167_1)⟩ (fun hHeld => ?_)
                            clear hK K
                            refine norm_ (a' := ?_) ?_ ?_
                            rotate_left
                            · show Act.put _ (some 10) _ = _
                              simp only [Act.put, List.setIfInBounds_toArray, List.set_cons_zero, List.set_cons_succ, i64_w, i32_w]
                              rfl
                            exact norm_ (by simp only [putAll, Act.put, List.setIfInBounds_toArray, List.set_cons_zero, List.set_cons_succ]) (hCont (gb171) _ ⟨hHeld, (by (with_reducible repeat (first | refine blk_drewN ?_ _ | refine blk_drew ?_ | refine blk_alloc ?_ _)); exact BK165.out), (by (with_reducible repeat (first | refine blk_drewN ?_ _ | refine blk_drew ?_ | refine blk_alloc ?_ _)); exact BK171.out), GW171.out, GE171.out, NB165_171.out, NB171_165.out, (by repeat (first | (with_reducible first | exact HB.out | apply below_alloc | apply pw_below_drewN | apply below_drew1 | refine below_set ?_ GE165.out | refine below_set ?_ GE171.out) | exact HB.out))⟩)
                          · skip
                            refine box_step ?hg (N := 10) ?hd (cs := #[.int .u64 0, .int .u64 0]) (t := 25) ?hr ?_; (case hd => rfl); (case hg => rfl); (case hr => first | (go_simp; done) | (go_simp; rfl))
                            intro gb171 hg w33 hbox hb
                            have n0_ := Aside0.mk (blk_below (g := gb165) (o := .cells #[.int .u64 x166000_1, .int .u64 x166001_1] 25 (0, 0)) (by (with_reducible repeat (first | refine blk_drewN ?_ _ | refine blk_drew ?_ | refine blk_alloc ?_ _)); exact BK165.out) hb)
                            have n1_ := Aside0.mk (below_step (by repeat (first | (with_reducible first | exact HB.out | apply below_alloc | apply pw_below_drewN | apply below_drew1 | refine below_set ?_ GE165.out) | exact HB.out)) hb)
                            have n2_ := Aside0.mk (hbox)
                            have n3_ := Aside0.mk ((by rw [hg]; exact (below_size (by repeat (first | (with_reducible first | exact HB.out | apply below_alloc | apply pw_below_drewN | apply below_drew1 | refine below_set ?_ GE165.out) | exact HB.out))) : w.heap.size ≤ gb171))
                            have n4_ := Aside0.mk ((by rw [hg]; exact (below_size (by repeat (first | (with_reducible first | exact HB.out | apply below_alloc | apply pw_below_drewN | apply below_drew1 | refine below_set ?_ GE165.out) | exact HB.out))) : w.heap.size ≤ gb171))
                            have n5_ := Aside0.mk ((by rw [hg]; exact Nat.ne_of_lt (blk_lt (g := gb165) (o := .cells #[.int .u64 x166000_1, .int .u64 x166001_1] 25 (0, 0)) (by (with_reducible repeat (first | refine blk_drewN ?_ _ | refine blk_drew ?_ | refine blk_alloc ?_ _)); exact BK165.out)) : gb165 ≠ gb171))
                            have n6_ := Aside0.mk ((by rw [hg]; exact Nat.ne_of_gt (blk_lt (g := gb165) (o := .cells #[.int .u64 x166000_1, .int .u64 x166001_1] 25 (0, 0)) (by (with_reducible repeat (first | refine blk_drewN ?_ _ | refine blk_drew ?_ | refine blk_alloc ?_ _)); exact BK165.out)) : gb171 ≠ gb165))
                            clear BK165
                            clear HB
                            have BK165 := n0_
                            have HB := n1_
                            have BK171 := n2_
                            have GW171 := n3_
                            have GE171 := n4_
                            have NB165_171 := n5_
                            have NB171_165 := n6_
                            clear n0_ n1_ n2_ n3_ n4_ n5_ n6_
                            clear hb hbox hg
                            refine hK.out _ _ ⟨(blk_cell BK165.out 0).trans rfl, (blk_cell BK165.out 1).trans rfl, ((HB.out.cell (World.block_lt_of_cell? w _ hw167_0)).trans hw167_0), ((HB.out.cell (World.block_lt_of_cell? w _ hw167_1)).trans hw167_1)⟩ (fun hHeld => ?_)
                            clear hK K
                            refine norm_ (a' := ?_) ?_ ?_
                            rotate_left
                            · show Act.put _ (some 10) _ = _
                              simp only [Act.put, List.setIfInBounds_toArray, List.set_cons_zero, List.set_cons_succ, i64_w, i32_w]
                              rfl
                            refine one_ (i := 6) (N := some 40) #[true, true, true, true, true, true, true, false, false, false, true, false, false] rfl rfl (one_of HT_.out (by kernel_rfl)) (by decide) (fun K hK => ?_)
                            refine goes_ Try.func10 (by kernel_rfl) rfl #[.agg #[.int .u64 x166000_1, .int .u64 x166001_1], .int .u64 ((rd_T41 l1 x9_1).f1)] (by rfl) rfl rfl (by (try simp only [List.map_toArray, List.map_cons, List.map_nil]); first | done | rfl | (simp only [List.length_drop, List.length_take]; rfl)) ?_
                            with_reducible refine (credit_Use.calls x166000_1 x166001_1 ((rd_T41 l1 x9_1).f1) t168 t169 false _ A14.out).mono ?_
                            rintro e w34 ⟨rfl, hb⟩
                            refine ⟨_, rfl, ?_⟩
                            have n0_ := Aside0.mk (blk_below (g := gb165) (o := .cells #[.int .u64 x166000_1, .int .u64 x166001_1] 25 (0, 0)) (by (with_reducible repeat (first | refine blk_drewN ?_ _ | refine blk_drew ?_ | refine blk_alloc ?_ _)); exact BK165.out) hb)
                            have n1_ := Aside0.mk (blk_below (g := gb171) (o := .cells #[.int .u64 0, .int .u64 0] 25 (0, 0)) (by (with_reducible repeat (first | refine blk_drewN ?_ _ | refine blk_drew ?_ | refine blk_alloc ?_ _)); exact BK171.out) hb)
                            have n2_ := Aside0.mk (below_step (by repeat (first | (with_reducible first | exact HB.out | apply below_alloc | apply pw_below_drewN | apply below_drew1 | refine below_set ?_ GE165.out | refine below_set ?_ GE171.out) | exact HB.out)) hb)
                            clear BK165
                            clear BK171
                            clear HB
                            have BK165 := n0_
                            have BK171 := n1_
                            have HB := n2_
                            clear n0_ n1_ n2_
                            (try clear hb)
                            (try clear hb2)
                            (try clear hk)
                            (try clear hi)
                            refine hK.out _ _ ⟨(blk_cell BK165.out 0).trans rfl, (blk_cell BK165.out 1).trans rfl, ((HB.out.cell (World.block_lt_of_cell? w _ hw167_0)).trans hw167_0), ((HB.out.cell (World.block_lt_of_cell? w _ hw167_1)).trans hw167_1)⟩ (fun hHeld => ?_)
                            clear hK K
                            refine norm_ (a' := ?_) ?_ ?_
                            rotate_left
                            · show Act.put _ (some 40) _ = _
                              simp only [Act.put, List.setIfInBounds_toArray, List.set_cons_zero, List.set_cons_succ, i64_w, i32_w]
                              rfl
                            refine pure_ (i := 7) (N := some 33) (v := ?_) (a' := ?_) #[true, true, true, true, true, true, true, true, false, false, true, false, false] rfl rfl (any_of HT_.out (by kernel_rfl)) (fun _ _ _ h => h) (Or.inl ⟨by rfl, ?_⟩) ?_ ?_
                            rotate_left
                            · intro w'
                              go_simp
                              with_reducible rfl
                            rotate_left
                            · simp only [Act.put, List.setIfInBounds_toArray, List.set_cons_zero, List.set_cons_succ, i64_w, i32_w]
                              rfl
                            refine pure_ (i := 8) (N := some 41) (v := ?_) (a' := ?_) #[true, true, true, true, true, true, true, true, true, false, true, false, false] rfl rfl (any_of HT_.out (by kernel_rfl)) (fun _ _ _ h => h) (Or.inl ⟨by rfl, ?_⟩) ?_ ?_
                            rotate_left
                            · intro w'
                              go_simp
                              with_reducible rfl
                            rotate_left
                            · simp only [Act.put, List.setIfInBounds_toArray, List.set_cons_zero, List.set_cons_succ, i64_w, i32_w]
                              rfl
                            refine pure_ (i := 9) (N := some 42) (v := ?_) (a' := ?_) #[true, true, true, true, true, true, true, true, true, true, true, false, false] rfl rfl (any_of HT_.out (by kernel_rfl)) (fun _ _ _ h => h) (Or.inl ⟨by rfl, ?_⟩) ?_ ?_
                            rotate_left
                            · intro w'
                              go_simp
                              with_reducible rfl
                            rotate_left
                            · simp only [Act.put, List.setIfInBounds_toArray, List.set_cons_zero, List.set_cons_succ, i64_w, i32_w]
                              rfl
                            exact norm_ (by simp only [putAll, Act.put, List.setIfInBounds_toArray, List.set_cons_zero, List.set_cons_succ]) (hCont (gb171) _ ⟨hHeld, (by (with_reducible repeat (first | refine blk_drewN ?_ _ | refine blk_drew ?_ | refine blk_alloc ?_ _)); exact BK165.out), (by (with_reducible repeat (first | refine blk_drewN ?_ _ | refine blk_drew ?_ | refine blk_alloc ?_ _)); exact BK171.out), GW171.out, GE171.out, NB165_171.out, NB171_165.out, (by repeat (first | (with_reducible first | exact HB.out | apply below_alloc | apply pw_below_drewN | apply below_drew1 | refine below_set ?_ GE165.out | refine below_set ?_ GE171.out) | exact HB.out))⟩)
                        rintro gb171 w35 ⟨hS_, h0_, h1_, h2_, h3_, h4_, h5_, h6_⟩
                        have n0_ : Aside0 (w35.heap[gb165]? = some (.cells #[.int .u64 x166000_1, .int .u64 x166001_1] 25 (0, 0))) := ⟨h0_⟩
                        have n1_ : Aside0 (w35.heap[gb171]? = some (.cells #[.int .u64 0, .int .u64 0] 25 (0, 0))) := ⟨h1_⟩
                        have n2_ : Aside0 (w.heap.size ≤ gb171) := ⟨h2_⟩
                        have n3_ : Aside0 (w.heap.size ≤ gb171) := ⟨h3_⟩
                        have n4_ : Aside0 (gb165 ≠ gb171) := ⟨h4_⟩
                        have n5_ : Aside0 (gb171 ≠ gb165) := ⟨h5_⟩
                        have n6_ : Aside0 (Below w.heap.size w w35) := ⟨h6_⟩
                        clear BK165
                        clear HB
                        clear h0_ h1_ h2_ h3_ h4_ h5_ h6_
                        have BK165 := n0_
                        have BK171 := n1_
                        have GW171 := n2_
                        have GE171 := n3_
                        have NB165_171 := n4_
                        have NB171_165 := n5_
                        have HB := n6_
                        clear n0_ n1_ n2_ n3_ n4_ n5_ n6_
                        have hHeld : w35.cell? ⟨gb165, 0, none⟩ = some (.int .u64 x166000_1) ∧ w35.cell? ⟨gb165, 1, none⟩ = some (.int .u64 x166001_1) ∧ w35.cell? (ad166.add ((x9_1).toNat * 2)) = some (.int .i64 ((rd_T41 l1 x9_1).f0)) ∧ w35.cell? ⟨(ad166.add ((x9_1).toNat * 2)).block, (ad166.add ((x9_1).toNat * 2)).off + 1, none⟩ = some (.int .u64 ((rd_T41 l1 x9_1).f1)) := hS_
                        refine norm_ (a' := ?_) ?_ ?_
                        rotate_left
                        · simp only [putAll, Act.put, List.setIfInBounds_toArray, List.set_cons_zero, List.set_cons_succ]
                          rfl
                        refine one_ (i := 11) (N := none) #[true, true, true, true, true, true, true, true, true, true, true, true, false] rfl rfl (one_of HT_.out (by kernel_rfl)) (by decide) (fun K hK => ?_)
                        have hs36 : w35.cell? ⟨gb171, 0, none⟩ = some (.int .u64 0) := (blk_cell BK171.out 0).trans rfl
                        have hfs36 := blk_frozen BK171.out 0
                        have hns36_0 := NB165_171.out
                        have hms36_0 := NB171_165.out
                        have hs37 : w35.cell? ⟨gb171, 1, none⟩ = some (.int .u64 0) := (blk_cell BK171.out 1).trans rfl
                        have hfs37 := blk_frozen BK171.out 1
                        have hns37_0 := NB165_171.out
                        have hms37_0 := NB171_165.out
                        refine skip_ (w1 := ?_) (by rfl) rfl ?_ ?_
                        rotate_left
                        · go_simp
                          rfl
                        refine hK.out _ _ ⟨((cell_far (p := ⟨gb171, _, none⟩) NB165_171.out _).trans (((cell_far (p := ⟨gb171, _, none⟩) NB165_171.out _).trans (hHeld.1)))), ((cell_far (p := ⟨gb171, _, none⟩) NB165_171.out _).trans (((cell_far (p := ⟨gb171, _, none⟩) NB165_171.out _).trans (hHeld.2.1)))), ((cell_far (p := ⟨gb171, _, none⟩) (by first | exact Nat.ne_of_lt (Nat.lt_of_lt_of_le (by have := World.block_lt_of_cell? _ _ hw167_0; first | rwa [add_block] at this | exact this) GW171.out) | (rw [add_block]; exact Nat.ne_of_lt (Nat.lt_of_lt_of_le (by have := World.block_lt_of_cell? _ _ hw167_0; first | rwa [add_block] at this | exact this) GW171.out)) | (show (Addr.add _ _).block ≠ _; rw [add_block]; exact Nat.ne_of_lt (Nat.lt_of_lt_of_le (by have := World.block_lt_of_cell? _ _ hw167_0; first | rwa [add_block] at this | exact this) GW171.out)) | (dsimp only; exact Nat.ne_of_lt (Nat.lt_of_lt_of_le (by have := World.block_lt_of_cell? _ _ hw167_0; first | rwa [add_block] at this | exact this) GW171.out))) _).trans (((cell_far (p := ⟨gb171, _, none⟩) (by first | exact Nat.ne_of_lt (Nat.lt_of_lt_of_le (by have := World.block_lt_of_cell? _ _ hw167_0; first | rwa [add_block] at this | exact this) GW171.out) | (rw [add_block]; exact Nat.ne_of_lt (Nat.lt_of_lt_of_le (by have := World.block_lt_of_cell? _ _ hw167_0; first | rwa [add_block] at this | exact this) GW171.out)) | (show (Addr.add _ _).block ≠ _; rw [add_block]; exact Nat.ne_of_lt (Nat.lt_of_lt_of_le (by have := World.block_lt_of_cell? _ _ hw167_0; first | rwa [add_block] at this | exact this) GW171.out)) | (dsimp only; exact Nat.ne_of_lt (Nat.lt_of_lt_of_le (by have := World.block_lt_of_cell? _ _ hw167_0; first | rwa [add_block] at this | exact this) GW171.out))) _).trans (hHeld.2.2.1)))), ((cell_far (p := ⟨gb171, _, none⟩) (by first | exact Nat.ne_of_lt (Nat.lt_of_lt_of_le (by have := World.block_lt_of_cell? _ _ hw167_1; first | rwa [add_block] at this | exact this) GW171.out) | (rw [add_block]; exact Nat.ne_of_lt (Nat.lt_of_lt_of_le (by have := World.block_lt_of_cell? _ _ hw167_1; first | rwa [add_block] at this | exact this) GW171.out)) | (show (Addr.add _ _).block ≠ _; rw [add_block]; exact Nat.ne_of_lt (Nat.lt_of_lt_of_le (by have := World.block_lt_of_cell? _ _ hw167_1; first | rwa [add_block] at this | exact this) GW171.out)) | (dsimp only; exact Nat.ne_of_lt (Nat.lt_of_lt_of_le (by have := World.block_lt_of_cell? _ _ hw167_1; first | rwa [add_block] at this | exact this) GW171.out))) _).trans (((cell_far (p := ⟨gb171, _, none⟩) (by first | exact Nat.ne_of_lt (Nat.lt_of_lt_of_le (by have := World.block_lt_of_cell? _ _ hw167_1; first | rwa [add_block] at this | exact this) GW171.out) | (rw [add_block]; exact Nat.ne_of_lt (Nat.lt_of_lt_of_le (by have := World.block_lt_of_cell? _ _ hw167_1; first | rwa [add_block] at this | exact this) GW171.out)) | (show (Addr.add _ _).block ≠ _; rw [add_block]; exact Nat.ne_of_lt (Nat.lt_of_lt_of_le (by have := World.block_lt_of_cell? _ _ hw167_1; first | rwa [add_block] at this | exact this) GW171.out)) | (dsimp only; exact Nat.ne_of_lt (Nat.lt_of_lt_of_le (by have := World.block_lt_of_cell? _ _ hw167_1; first | rwa [add_block] at this | exact this) GW171.out))) _).trans (hHeld.2.2.2))))⟩ (fun hHeld => ?_)
                        clear hK K
                        refine pure_ (i := 12) (N := some 11) (v := ?_) (a' := ?_) #[true, true, true, true, true, true, true, true, true, true, true, true, true] rfl rfl (any_of HT_.out (by kernel_rfl)) (fun _ _ _ h => h) (Or.inl ⟨by rfl, ?_⟩) ?_ ?_
                        rotate_left
                        · intro w'
                          go_simp
                          with_reducible rfl
                        rotate_left
                        · simp only [Act.put, List.setIfInBounds_toArray, List.set_cons_zero, List.set_cons_succ, i64_w, i32_w]
                          rfl
                        refine done_ (done_of HT_.out (by kernel_rfl)) ?_
                        have p172 : 0 ≤ (x9_1 : Int) := of_decide_eq_true (by first | (with_reducible assumption) | assumption)
                        have q172 : x9_1 < (l1.length : Int) := of_decide_eq_true (by first | (with_reducible assumption) | assumption)
                        obtain ⟨ad172, e172, hx172_0, hx172_1⟩ := at_T41 HR1.out x9_1 p172 q172
                        obtain rfl : ad166 = ad172 := (by injection e172)
                        have hn172_0 : ad166.block ≠ gb171 := Nat.ne_of_lt (Nat.lt_of_lt_of_le (by have := World.block_lt_of_cell? _ _ hx172_0; first | rwa [add_block] at this | exact this) GW171.out)
                        have hn172_1 : ad166.block ≠ gb171 := Nat.ne_of_lt (Nat.lt_of_lt_of_le (by have := World.block_lt_of_cell? _ _ hx172_0; first | rwa [add_block] at this | exact this) GW171.out)
                        replace hx172_0 := (HB.out.cell (World.block_lt_of_cell? w _ hx172_0)).trans hx172_0
                        replace hx172_1 := (HB.out.cell (World.block_lt_of_cell? w _ hx172_1)).trans hx172_1
                        replace hx172_0 := (cell_far (p := ⟨gb171, 0, none⟩) (by first | (rw [add_block]; exact hn172_0) | (show (Addr.add _ _).block ≠ _; rw [add_block]; exact hn172_0) | exact hn172_0) (.int .u64 t168)).trans hx172_0
                        replace hx172_1 := (cell_far (p := ⟨gb171, 0, none⟩) (by first | (rw [add_block]; exact hn172_0) | (show (Addr.add _ _).block ≠ _; rw [add_block]; exact hn172_0) | exact hn172_0) (.int .u64 t168)).trans hx172_1
                        replace hx172_0 := (cell_far (p := ⟨gb171, 1, none⟩) (by first | (rw [add_block]; exact hn172_1) | (show (Addr.add _ _).block ≠ _; rw [add_block]; exact hn172_1) | exact hn172_1) (.int .u64 t169)).trans hx172_0
                        replace hx172_1 := (cell_far (p := ⟨gb171, 1, none⟩) (by first | (rw [add_block]; exact hn172_1) | (show (Addr.add _ _).block ≠ _; rw [add_block]; exact hn172_1) | exact hn172_1) (.int .u64 t169)).trans hx172_1
                        clear hn172_0
                        clear hn172_1
                        replace p172 := eq_true p172
                        replace q172 := eq_true q172
                        have hnb38 := NB171_165.out
                        have hnc38 := NB165_171.out
                        have hcz39_0 : w35.cell? ⟨gb171, 0, none⟩ = some (.int .u64 0) := (blk_cell BK171.out 0).trans rfl
                        have hcz39_1 : w35.cell? ⟨gb171, 1, none⟩ = some (.int .u64 0) := (blk_cell BK171.out 1).trans rfl
                        have hfz39_0 := blk_frozen BK171.out 0
                        have hfz39_1 := blk_frozen BK171.out 1
                        have hcz40_0 : w35.cell? ⟨gb165, 0, none⟩ = some (.int .u64 x166000_1) := (blk_cell BK165.out 0).trans rfl
                        have hcz40_1 : w35.cell? ⟨gb165, 1, none⟩ = some (.int .u64 x166001_1) := (blk_cell BK165.out 1).trans rfl
                        have hfz40_0 := blk_frozen BK165.out 0
                        have hfz40_1 := blk_frozen BK165.out 1
                        try go_wp2
                        go_meet
                        case rel => exact ⟨_, (x7_1), (x8_1), (t168), (t169), (by first | rfl | (simp; done) | (simp [*]; done)), (by first | rfl | (simp; done) | (simp [*]; done)), H', ⟨by have := HK1.out; have := HJ6.out; first | omega | exact Nat.le_refl _⟩, ⟨by (with_reducible repeat (first | refine blk_drewN ?_ _ | refine blk_drew ?_ | refine blk_alloc ?_ _)); refine blk_put (cs := #[.int .u64 t168, .int .u64 x166001_1]) ?_ 1 _ rfl; (with_reducible repeat (first | refine blk_drewN ?_ _ | refine blk_drew ?_ | refine blk_alloc ?_ _)); refine blk_put (cs := #[.int .u64 x166000_1, .int .u64 x166001_1]) ?_ 0 _ rfl; (with_reducible repeat (first | refine blk_drewN ?_ _ | refine blk_drew ?_ | refine blk_alloc ?_ _)); refine blk_far ?_ NB165_171.out _; (with_reducible repeat (first | refine blk_drewN ?_ _ | refine blk_drew ?_ | refine blk_alloc ?_ _)); refine blk_far ?_ NB165_171.out _; (with_reducible repeat (first | refine blk_drewN ?_ _ | refine blk_drew ?_ | refine blk_alloc ?_ _)); exact BK165.out⟩, ⟨by repeat (first | (with_reducible first | exact HB.out | apply below_alloc | apply pw_below_drewN | apply below_drew1 | refine below_set ?_ GE165.out | refine below_set ?_ GE171.out) | exact HB.out)⟩⟩
                  · rw [if_neg c13] at H
                    have c13b0 : (((rd_T41 l1 x9_1).f0) == 1) = false := beq_eq_false_iff_ne.mpr c13
                    have c13b1 : (((rd_T41 l1 x9_1).f0) != 1) = true := bne_iff_ne.mpr c13
                    (first | rw [c13b0] | (simp only [i64_w, i32_w]; rw [c13b0]) | skip)
                    by_cases c41 : ((rd_T41 l1 x9_1).f0) = 2
                    · rw [if_pos c41] at H
                      have c41b0 : (((rd_T41 l1 x9_1).f0) == 2) = true := beq_iff_eq.mpr c41
                      have c41b1 : (((rd_T41 l1 x9_1).f0) != 2) = false := bne_eq_false_iff_eq.mpr c41
                      clear c41
                      replace H := Option.bind_eq_some_iff.mp H
                      obtain ⟨⟨t175, t176⟩, A420, H⟩ := H
                      replace H : (wigwaglaw19_CreditHolds.j2 kj6 l1 t164 (mx x7_1 ((rd_T41 l1 x9_1).f1)) x8_1 x9_1 t175 t176) = some r := H
                      have A42 := Aside0.mk A420
                      clear A420
                      obtain ⟨ji43, hji43⟩ : ∃ j_ : Int, (mx x7_1 ((rd_T41 l1 x9_1).f1)) = j_ := ⟨_, rfl⟩
                      replace H : (wigwaglaw19_CreditHolds.j2 kj6 l1 t164 ji43 x8_1 x9_1 t175 t176) = some r := by first | (rw [hji43] at H; exact H) | (simp only [hji43] at H ⊢; exact H)
                      (try rw [hji43] at A42)
                      have hji43_ : (if x7_1 < ((rd_T41 l1 x9_1).f1) then ((rd_T41 l1 x9_1).f1) else x7_1) = ji43 := hji43
                      have H' := Aside0.mk H
                      clear H
                      try go_wp2
                      have n0_ := Aside0.mk (blk_drew BK165.out)
                      have n1_ := Aside0.mk (below_drew1 HB.out)
                      clear BK165
                      clear HB
                      have BK165 := n0_
                      have HB := n1_
                      clear n0_ n1_
                      have p174 : 0 ≤ (x9_1 : Int) := of_decide_eq_true (by first | (with_reducible assumption) | assumption)
                      have q174 : x9_1 < (l1.length : Int) := of_decide_eq_true (by first | (with_reducible assumption) | assumption)
                      obtain ⟨ad174, e174, hx174_0, hx174_1⟩ := at_T41 HR1.out x9_1 p174 q174
                      have hw174_1 := hx174_1
                      have hw174_0 := hx174_0
                      obtain rfl : ad166 = ad174 := (by injection e174)
                      replace hx174_0 := (HB.out.cell (World.block_lt_of_cell? w _ hx174_0)).trans hx174_0
                      replace hx174_1 := (HB.out.cell (World.block_lt_of_cell? w _ hx174_1)).trans hx174_1
                      replace p174 := eq_true p174
                      replace q174 := eq_true q174
                      refine start_ (n := 8) (S := fun w' => w'.cell? ⟨gb165, 0, none⟩ = some (.int .u64 x166000_1) ∧ w'.cell? ⟨gb165, 1, none⟩ = some (.int .u64 x166001_1) ∧ w'.cell? (ad166.add ((x9_1).toNat * 2)) = some (.int .i64 ((rd_T41 l1 x9_1).f0)) ∧ w'.cell? ⟨(ad166.add ((x9_1).toNat * 2)).block, (ad166.add ((x9_1).toNat * 2)).off + 1, none⟩ = some (.int .u64 ((rd_T41 l1 x9_1).f1))) (ds := [7]) #[false, false, false, false, false, false, false, false] (by kernel_rfl) rfl rfl ⟨(blk_cell BK165.out 0).trans rfl, (blk_cell BK165.out 1).trans rfl, ((HB.out.cell (World.block_lt_of_cell? w _ hw174_0)).trans hw174_0), ((HB.out.cell (World.block_lt_of_cell? w _ hw174_1)).trans hw174_1)⟩ (fun hHeld => ?_); refine with_tabW wigwaglaw19_CreditHolds.tab17 wigwaglaw19_CreditHolds.bits17 (fun HT_ HW_ => ?_)
                      generalize wc.drew = w44 at BK165 HB hx174_0 hx174_1 hHeld ⊢
                      refine pure_ (i := 1) (N := some 66) (v := ?_) (a' := ?_) #[false, true, false, false, false, false, false, false] rfl rfl (any_of HT_.out (by kernel_rfl)) (fun _ _ _ h => h) (Or.inl ⟨by rfl, ?_⟩) ?_ ?_
                      rotate_left
                      · intro w'
                        go_simp
                        with_reducible rfl
                      rotate_left
                      · simp only [Act.put, List.setIfInBounds_toArray, List.set_cons_zero, List.set_cons_succ, i64_w, i32_w]
                        rfl
                      refine pure_ (i := 2) (N := some 67) (v := ?_) (a' := ?_) #[false, true, true, false, false, false, false, false] rfl rfl (any_of HT_.out (by kernel_rfl)) (fun _ _ _ h => h) (Or.inl ⟨by rfl, ?_⟩) ?_ ?_
                      rotate_left
                      · intro w'
                        go_simp
                        with_reducible rfl
                      rotate_left
                      · simp only [Act.put, List.setIfInBounds_toArray, List.set_cons_zero, List.set_cons_succ, i64_w, i32_w]
                        rfl
                      refine pure_ (i := 3) (N := some 68) (v := ?_) (a' := ?_) #[false, true, true, true, false, false, false, false] rfl rfl (any_of HT_.out (by kernel_rfl)) (fun _ _ _ h => h) (Or.inl ⟨by rfl, ?_⟩) ?_ ?_
                      rotate_left
                      · intro w'
                        go_simp
                        with_reducible rfl
                      rotate_left
                      · simp only [Act.put, List.setIfInBounds_toArray, List.set_cons_zero, List.set_cons_succ, i64_w, i32_w]
                        rfl
                      refine pure_ (i := 4) (N := some 69) (v := ?_) (a' := ?_) #[false, true, true, true, true, false, false, false] rfl rfl (any_of HT_.out (by kernel_rfl)) (fun _ _ _ h => h) (Or.inl ⟨by rfl, ?_⟩) ?_ ?_
                      rotate_left
                      · intro w'
                        go_simp
                        with_reducible rfl
                      rotate_left
                      · simp only [Act.put, List.setIfInBounds_toArray, List.set_cons_zero, List.set_cons_succ, i64_w, i32_w]
                        rfl
                      refine take_ (i := 0) (N := some 65) (v := ?_) (a' := ?_) #[true, true, true, true, true, false, false, false] rfl rfl (take_ofW HT_.out HW_.out (by kernel_rfl)) (fun _ _ _ h => h) (Or.inl ⟨by rfl, ?_⟩) hHeld ?_ ?_
                      rotate_left
                      · rintro w' ⟨s0, s1, s2, s3⟩
                        go_simp
                        with_reducible rfl
                      rotate_left
                      · simp only [Act.put, List.setIfInBounds_toArray, List.set_cons_zero, List.set_cons_succ, i64_w, i32_w]
                        rfl
                      refine take_ (i := 5) (N := some 70) (v := ?_) (a' := ?_) #[true, true, true, true, true, true, false, false] rfl rfl (take_ofW HT_.out HW_.out (by kernel_rfl)) (fun _ _ _ h => h) (Or.inl ⟨by rfl, ?_⟩) hHeld ?_ ?_
                      rotate_left
                      · rintro w' ⟨s0, s1, s2, s3⟩
                        go_simp
                        with_reducible rfl
                      rotate_left
                      · simp only [Act.put, List.setIfInBounds_toArray, List.set_cons_zero, List.set_cons_succ, i64_w, i32_w]
                        rfl
                      refine one_ (i := 6) (N := some 71) #[true, true, true, true, true, true, true, false] rfl rfl (one_of HT_.out (by kernel_rfl)) (by decide) (fun K hK => ?_)
                      refine goes_ Try.func18 (by kernel_rfl) rfl #[.agg #[.int .u64 x166000_1, .int .u64 x166001_1], .int .u64 ((rd_T41 l1 x9_1).f1)] (by rfl) rfl rfl (by (try simp only [List.map_toArray, List.map_cons, List.map_nil]); first | done | rfl | (simp only [List.length_drop, List.length_take]; rfl)) ?_
                      with_reducible refine (credit_Raise.calls x166000_1 x166001_1 ((rd_T41 l1 x9_1).f1) t175 t176 _ A42.out).mono ?_
                      rintro e w45 ⟨rfl, hb⟩
                      refine ⟨_, rfl, ?_⟩
                      have n0_ := Aside0.mk (blk_below (g := gb165) (o := .cells #[.int .u64 x166000_1, .int .u64 x166001_1] 25 (0, 0)) (by (with_reducible repeat (first | refine blk_drewN ?_ _ | refine blk_drew ?_ | refine blk_alloc ?_ _)); exact BK165.out) hb)
                      have n1_ := Aside0.mk (below_step (by repeat (first | (with_reducible first | exact HB.out | apply below_alloc | apply pw_below_drewN | apply below_drew1 | refine below_set ?_ GE165.out) | exact HB.out)) hb)
                      clear BK165
                      clear HB
                      have BK165 := n0_
                      have HB := n1_
                      clear n0_ n1_
                      (try clear hb)
                      (try clear hb2)
                      (try clear hk)
                      (try clear hi)
                      refine hK.out _ _ ⟨(blk_cell BK165.out 0).trans rfl, (blk_cell BK165.out 1).trans rfl, ((HB.out.cell (World.block_lt_of_cell? w _ hw174_0)).trans hw174_0), ((HB.out.cell (World.block_lt_of_cell? w _ hw174_1)).trans hw174_1)⟩ (fun hHeld => ?_)
                      clear hK K
                      refine norm_ (a' := ?_) ?_ ?_
                      rotate_left
                      · show Act.put _ (some 71) _ = _
                        simp only [Act.put, List.setIfInBounds_toArray, List.set_cons_zero, List.set_cons_succ, i64_w, i32_w]
                        rfl
                      refine last_ (i := 7) (N := none) #[true, true, true, true, true, true, true, true] rfl rfl (one_of HT_.out (by kernel_rfl)) (by decide) (fun K hK => ?_)
                      have hs46 : w45.cell? ⟨gb165, 0, none⟩ = some (.int .u64 x166000_1) := (blk_cell BK165.out 0).trans rfl
                      have hfs46 := blk_frozen BK165.out 0
                      have hs47 : w45.cell? ⟨gb165, 1, none⟩ = some (.int .u64 x166001_1) := (blk_cell BK165.out 1).trans rfl
                      have hfs47 := blk_frozen BK165.out 1
                      refine skip_ (w1 := ?_) (by rfl) rfl ?_ ?_
                      rotate_left
                      · go_simp
                        rfl
                      refine hK.out _ _ ?_
                      clear hK K
                      refine done_ (done_of HT_.out (by kernel_rfl)) ?_
                      have p177 : 0 ≤ (x9_1 : Int) := of_decide_eq_true (by first | (with_reducible assumption) | assumption)
                      have q177 : x9_1 < (l1.length : Int) := of_decide_eq_true (by first | (with_reducible assumption) | assumption)
                      obtain ⟨ad177, e177, hx177_0, hx177_1⟩ := at_T41 HR1.out x9_1 p177 q177
                      obtain rfl : ad166 = ad177 := (by injection e177)
                      have hn177_0 : ad166.block ≠ gb165 := Nat.ne_of_lt (Nat.lt_of_lt_of_le (by have := World.block_lt_of_cell? _ _ hx177_0; first | rwa [add_block] at this | exact this) GW165.out)
                      have hn177_1 : ad166.block ≠ gb165 := Nat.ne_of_lt (Nat.lt_of_lt_of_le (by have := World.block_lt_of_cell? _ _ hx177_0; first | rwa [add_block] at this | exact this) GW165.out)
                      replace hx177_0 := (HB.out.cell (World.block_lt_of_cell? w _ hx177_0)).trans hx177_0
                      replace hx177_1 := (HB.out.cell (World.block_lt_of_cell? w _ hx177_1)).trans hx177_1
                      replace hx177_0 := (cell_far (p := ⟨gb165, 0, none⟩) (by first | (rw [add_block]; exact hn177_0) | (show (Addr.add _ _).block ≠ _; rw [add_block]; exact hn177_0) | exact hn177_0) (.int .u64 t175)).trans hx177_0
                      replace hx177_1 := (cell_far (p := ⟨gb165, 0, none⟩) (by first | (rw [add_block]; exact hn177_0) | (show (Addr.add _ _).block ≠ _; rw [add_block]; exact hn177_0) | exact hn177_0) (.int .u64 t175)).trans hx177_1
                      replace hx177_0 := (cell_far (p := ⟨gb165, 1, none⟩) (by first | (rw [add_block]; exact hn177_1) | (show (Addr.add _ _).block ≠ _; rw [add_block]; exact hn177_1) | exact hn177_1) (.int .u64 t176)).trans hx177_0
                      replace hx177_1 := (cell_far (p := ⟨gb165, 1, none⟩) (by first | (rw [add_block]; exact hn177_1) | (show (Addr.add _ _).block ≠ _; rw [add_block]; exact hn177_1) | exact hn177_1) (.int .u64 t176)).trans hx177_1
                      clear hn177_0
                      clear hn177_1
                      replace p177 := eq_true p177
                      replace q177 := eq_true q177
                      try go_wp2
                      go_meet
                      case rel => exact ⟨_, (ji43), (x8_1), (t175), (t176), (by first | rfl | (simp; done) | (simp only [← hji43] <;> (first | rfl | simp)) | (simp [*]; done)), (by first | rfl | (simp; done) | (simp [*]; done)), H', ⟨by have := HK1.out; have := HJ6.out; first | omega | exact Nat.le_refl _⟩, ⟨by (with_reducible repeat (first | refine blk_drewN ?_ _ | refine blk_drew ?_ | refine blk_alloc ?_ _)); refine blk_put (cs := #[.int .u64 t175, .int .u64 x166001_1]) ?_ 1 _ rfl; (with_reducible repeat (first | refine blk_drewN ?_ _ | refine blk_drew ?_ | refine blk_alloc ?_ _)); refine blk_put (cs := #[.int .u64 x166000_1, .int .u64 x166001_1]) ?_ 0 _ rfl; (with_reducible repeat (first | refine blk_drewN ?_ _ | refine blk_drew ?_ | refine blk_alloc ?_ _)); exact BK165.out⟩, ⟨by repeat (first | (with_reducible first | exact HB.out | apply below_alloc | apply pw_below_drewN | apply below_drew1 | refine below_set ?_ GE165.out) | exact HB.out)⟩⟩
                    · rw [if_neg c41] at H
                      have c41b0 : (((rd_T41 l1 x9_1).f0) == 2) = false := beq_eq_false_iff_ne.mpr c41
                      have c41b1 : (((rd_T41 l1 x9_1).f0) != 2) = true := bne_iff_ne.mpr c41
                      have H' := Aside0.mk H
                      clear H
                      go_wp2
                      go_meet
                      case rel => exact ⟨_, (x7_1), (x8_1), (x166000_1), (x166001_1), (by first | rfl | (simp; done) | (simp [*]; done)), (by first | rfl | (simp; done) | (simp [*]; done)), H', ⟨by have := HK1.out; have := HJ6.out; first | omega | exact Nat.le_refl _⟩, ⟨by (with_reducible repeat (first | refine blk_drewN ?_ _ | refine blk_drew ?_ | refine blk_alloc ?_ _)); exact BK165.out⟩, ⟨by repeat (first | (with_reducible first | exact HB.out | apply below_alloc | apply pw_below_drewN | apply below_drew1 | refine below_set ?_ GE165.out) | exact HB.out)⟩⟩
                case rest =>
                  clear HC12
                  try clear c1
                  try clear p1
                  try clear q1
                  try clear hx1
                  try clear c2
                  try clear p2
                  try clear c3
                  try clear c4
                  try clear c10
                  try clear c13
                  try clear c13b0
                  try clear c13b1
                  try clear p16
                  try clear q16
                  try clear hx16
                  try clear p17
                  try clear q17
                  try clear hx17
                  try clear c18
                  try clear c22
                  try clear c29
                  try clear c38
                  try clear c41
                  try clear c41b0
                  try clear c41b1
                  try clear hcz30_0
                  try clear hcz30_1
                  try clear hcz31_0
                  try clear hcz31_1
                  try clear hcz39_0
                  try clear hcz39_1
                  try clear hcz40_0
                  try clear hcz40_1
                  try clear hfz30_0
                  try clear hfz30_1
                  try clear hfz31_0
                  try clear hfz31_1
                  try clear hfz39_0
                  try clear hfz39_1
                  try clear hfz40_0
                  try clear hfz40_1
                  try clear hx167_0
                  try clear hx167_1
                  try clear hx172_0
                  try clear hx172_1
                  try clear hx173_0
                  try clear hx173_1
                  try clear hx174_0
                  try clear hx174_1
                  try clear hx177_0
                  try clear hx177_1
                  try clear p167
                  try clear p172
                  try clear p173
                  try clear p174
                  try clear p177
                  try clear q167
                  try clear q172
                  try clear q173
                  try clear q174
                  try clear q177
                  obtain ⟨kq, x7_11, x8_11, x166000_11, x166001_11, rfl, rfl, HA, HJ11, BK165, HB⟩ := hcut
                  cases kq with
                  | zero => exact absurd HA.out (by simp [wigwaglaw19_CreditHolds.j2])
                  | succ kj11 =>
                    have H := HA.out
                    clear HA
                    simp only [wigwaglaw19_CreditHolds.j2] at H
                    by_cases c48 : x166001_11 = x8_11
                    · rw [if_pos c48] at H
                      have c48b0 : (x166001_11 == x8_11) = true := beq_iff_eq.mpr c48
                      have c48b1 : (x166001_11 != x8_11) = false := bne_eq_false_iff_eq.mpr c48
                      clear c48
                      by_cases c49 : x166000_11 = x7_11
                      · rw [if_pos c49] at H
                        have c49b0 : (x166000_11 == x7_11) = true := beq_iff_eq.mpr c49
                        have c49b1 : (x166000_11 != x7_11) = false := bne_eq_false_iff_eq.mpr c49
                        clear c49
                        by_cases c50 : x8_11 > x7_11
                        · rw [if_pos c50] at H
                          have c50b0 : decide (x7_11 < x8_11) = true := decide_eq_true c50
                          clear c50
                          obtain rfl := Option.some.inj H
                          have hcz51_0 : wc.cell? ⟨gb165, 0, none⟩ = some (.int .u64 x166000_11) := (blk_cell BK165.out 0).trans rfl
                          have hcz51_1 : wc.cell? ⟨gb165, 1, none⟩ = some (.int .u64 x166001_11) := (blk_cell BK165.out 1).trans rfl
                          have hfz51_0 := blk_frozen BK165.out 0
                          have hfz51_1 := blk_frozen BK165.out 1
                          go_wp2
                          go_ret
                          exact ⟨by first | rfl | (simp [errW_none, errW_some] <;> rfl) | (simp [*, errW_none, errW_some] <;> rfl), by repeat (first | (with_reducible first | exact HB.out | apply below_alloc | apply pw_below_drewN | apply below_drew1 | refine below_set ?_ GE165.out) | exact HB.out)⟩
                        · rw [if_neg c50] at H
                          have c50b0 : decide (x7_11 < x8_11) = false := decide_eq_false c50
                          clear c50
                          replace H := Option.bind_eq_some_iff.mp H
                          obtain ⟨t178, A520, H⟩ := H
                          replace H : (if t178 = (IntKind.u64.wrap (x7_11 - x8_11)) then (wigwaglaw19_CreditHolds.l0 kj11 l1 t164 x7_11 x8_11 (wrap64 (x9_1 + 1)) x166000_11 x166001_11) else (some false)) = some r := H
                          have A52 := Aside0.mk A520
                          clear A520
                          by_cases c53 : t178 = (IntKind.u64.wrap (x7_11 - x8_11))
                          · rw [if_pos c53] at H
                            have c53b0 : (t178 == (IntKind.u64.wrap (x7_11 - x8_11))) = true := beq_iff_eq.mpr c53
                            have c53b1 : (t178 != (IntKind.u64.wrap (x7_11 - x8_11))) = false := bne_eq_false_iff_eq.mpr c53
                            clear c53
                            have H' := Aside0.mk H
                            clear H
                            have hcz54_0 : wc.cell? ⟨gb165, 0, none⟩ = some (.int .u64 x166000_11) := (blk_cell BK165.out 0).trans rfl
                            have hcz54_1 : wc.cell? ⟨gb165, 1, none⟩ = some (.int .u64 x166001_11) := (blk_cell BK165.out 1).trans rfl
                            have hfz54_0 := blk_frozen BK165.out 0
                            have hfz54_1 := blk_frozen BK165.out 1
                            go_wp2_with (first | (go_at_call 16; (with_reducible refine (credit_Left.calls x166000_11 x166001_11 t178 _ A52.out).mono ?_); rintro e w55 ⟨rfl, hb⟩; have n0_ := Aside0.mk (blk_below (g := gb165) (o := .cells #[.int .u64 x166000_11, .int .u64 x166001_11] 25 (0, 0)) (by (with_reducible repeat (first | refine blk_drewN ?_ _ | refine blk_drew ?_ | refine blk_alloc ?_ _)); exact BK165.out) hb); have n1_ := Aside0.mk (below_step (by repeat (first | (with_reducible first | exact HB.out | apply below_alloc | apply pw_below_drewN | apply below_drew1 | refine below_set ?_ GE165.out) | exact HB.out)) hb); clear BK165; clear HB; have BK165 := n0_; have HB := n1_; clear n0_ n1_; (try clear hb); (try clear hb2); (try clear hk); (try clear hi)))
                            go_roundg kj11
                            case measure => have := HK1.out; have := HJ6.out; have := HJ11.out; omega
                            case rel => exact ⟨(x7_11), (x8_11), (wrap64 (x9_1 + 1)), (x166000_11), (x166001_11), (by first | rfl | (simp; done) | (simp [*]; done)), (by first | rfl | (simp; done) | (simp [*]; done)), (by first | rfl | (simp; done) | (simp [*]; done)), H', ⟨by have := HK1.out; have := HJ6.out; have := HJ11.out; omega⟩, ⟨by (with_reducible repeat (first | refine blk_drewN ?_ _ | refine blk_drew ?_ | refine blk_alloc ?_ _)); exact BK165.out⟩, ⟨by repeat (first | (with_reducible first | exact HB.out | apply below_alloc | apply pw_below_drewN | apply below_drew1 | refine below_set ?_ GE165.out) | exact HB.out)⟩⟩
                          · rw [if_neg c53] at H
                            have c53b0 : (t178 == (IntKind.u64.wrap (x7_11 - x8_11))) = false := beq_eq_false_iff_ne.mpr c53
                            have c53b1 : (t178 != (IntKind.u64.wrap (x7_11 - x8_11))) = true := bne_iff_ne.mpr c53
                            obtain rfl := Option.some.inj H
                            have hcz56_0 : wc.cell? ⟨gb165, 0, none⟩ = some (.int .u64 x166000_11) := (blk_cell BK165.out 0).trans rfl
                            have hcz56_1 : wc.cell? ⟨gb165, 1, none⟩ = some (.int .u64 x166001_11) := (blk_cell BK165.out 1).trans rfl
                            have hfz56_0 := blk_frozen BK165.out 0
                            have hfz56_1 := blk_frozen BK165.out 1
                            go_wp2_with (first | (go_at_call 16; (with_reducible refine (credit_Left.calls x166000_11 x166001_11 t178 _ A52.out).mono ?_); rintro e w57 ⟨rfl, hb⟩; have n0_ := Aside0.mk (blk_below (g := gb165) (o := .cells #[.int .u64 x166000_11, .int .u64 x166001_11] 25 (0, 0)) (by (with_reducible repeat (first | refine blk_drewN ?_ _ | refine blk_drew ?_ | refine blk_alloc ?_ _)); exact BK165.out) hb); have n1_ := Aside0.mk (below_step (by repeat (first | (with_reducible first | exact HB.out | apply below_alloc | apply pw_below_drewN | apply below_drew1 | refine below_set ?_ GE165.out) | exact HB.out)) hb); clear BK165; clear HB; have BK165 := n0_; have HB := n1_; clear n0_ n1_; (try clear hb); (try clear hb2); (try clear hk); (try clear hi)))
                            go_ret
                            exact ⟨by first | rfl | (simp [errW_none, errW_some] <;> rfl) | (simp [*, errW_none, errW_some] <;> rfl), by repeat (first | (with_reducible first | exact HB.out | apply below_alloc | apply pw_below_drewN | apply below_drew1 | refine below_set ?_ GE165.out) | exact HB.out)⟩
                      · rw [if_neg c49] at H
                        have c49b0 : (x166000_11 == x7_11) = false := beq_eq_false_iff_ne.mpr c49
                        have c49b1 : (x166000_11 != x7_11) = true := bne_iff_ne.mpr c49
                        obtain rfl := Option.some.inj H
                        have hcz58_0 : wc.cell? ⟨gb165, 0, none⟩ = some (.int .u64 x166000_11) := (blk_cell BK165.out 0).trans rfl
                        have hcz58_1 : wc.cell? ⟨gb165, 1, none⟩ = some (.int .u64 x166001_11) := (blk_cell BK165.out 1).trans rfl
                        have hfz58_0 := blk_frozen BK165.out 0
                        have hfz58_1 := blk_frozen BK165.out 1
                        go_wp2
                        go_ret
                        exact ⟨by first | rfl | (simp [errW_none, errW_some] <;> rfl) | (simp [*, errW_none, errW_some] <;> rfl), by repeat (first | (with_reducible first | exact HB.out | apply below_alloc | apply pw_below_drewN | apply below_drew1 | refine below_set ?_ GE165.out) | exact HB.out)⟩
                    · rw [if_neg c48] at H
                      have c48b0 : (x166001_11 == x8_11) = false := beq_eq_false_iff_ne.mpr c48
                      have c48b1 : (x166001_11 != x8_11) = true := bne_iff_ne.mpr c48
                      obtain rfl := Option.some.inj H
                      have hcz59_0 : wc.cell? ⟨gb165, 0, none⟩ = some (.int .u64 x166000_11) := (blk_cell BK165.out 0).trans rfl
                      have hcz59_1 : wc.cell? ⟨gb165, 1, none⟩ = some (.int .u64 x166001_11) := (blk_cell BK165.out 1).trans rfl
                      have hfz59_0 := blk_frozen BK165.out 0
                      have hfz59_1 := blk_frozen BK165.out 1
                      go_wp2
                      go_ret
                      exact ⟨by first | rfl | (simp [errW_none, errW_some] <;> rfl) | (simp [*, errW_none, errW_some] <;> rfl), by repeat (first | (with_reducible first | exact HB.out | apply below_alloc | apply pw_below_drewN | apply below_drew1 | refine below_set ?_ GE165.out) | exact HB.out)⟩
              · rw [if_neg c11] at H
                exact absurd H (by simp)
            · rw [if_neg c10] at H
              exact absurd H (by simp)
          · replace c9 := Bool.eq_false_iff.mpr c9
            subst c9
            have H1 : (some t164) = some r := by rw [if_neg (show ¬ (false = true) by decide)] at H; exact H
            clear H
            have H := H1
            clear H1
            obtain rfl := Option.some.inj H
            go_wp2
            go_ret
            exact ⟨by first | rfl | (simp [errW_none, errW_some] <;> rfl) | (simp [*, errW_none, errW_some] <;> rfl), by repeat (first | (with_reducible first | exact HB.out | apply below_alloc | apply pw_below_drewN | apply below_drew1 | refine below_set ?_ GE165.out) | exact HB.out)⟩

end Go.Proofs.Ytgfmmbgljbabbaa.P
