-- Printed for this claim by xprint.py of this session: contracts of this session's own stand in for what the print does not take
import Derived.Test.YtmajccpifkbdpaaPx0
import Derived.Test.YtmajccpifkbdpaaPx4
import Derived.Test.YtmajccpifkbdpaaPx5
namespace Go.Proofs.Ytmajccpifkbdpaa.P
open Go.RowKit Go.Proofs.YtmajccpifkbdpaaW.PrintWords Go.Proofs.YtmajccpifkbdpaaW.PrintLast Go.Proofs.YtmajccpifkbdpaaW.PrintMore
attribute [local go_sem] max2_int min2_int max_two min_two max_three min_three max_four min_four   -- for this text's walks alone
set_option linter.unusedVariables false
set_option linter.unusedSimpArgs false

/-! ### wigwaglaw10_RenoFalls: function 9 -/
mutual
def wigwaglaw10_RenoFalls.j0 : Nat → Int → Bool → Option (Bool)
  | 0, _, _ => none
  | k + 1, x0, x3 => (reno_New.f).bind fun bt148 => (wigwaglaw10_RenoFalls.l0 k x0 x3 0 bt148.1 bt148.2.1 bt148.2.2.1 bt148.2.2.2)
def wigwaglaw10_RenoFalls.l0 : Nat → Int → Bool → Int → Int → Int → Int → Int → Option (Bool)
  | 0, _, _, _, _, _, _, _ => none
  | k + 1, x0, x3, x5, x153000, x153001, x153002, x153003 => if x5 < (Int.tmod x0 30) then ((reno_Loss.f x153000 x153001 x153002 x153003 (IntKind.u64.wrap (wrap64 ((wrap64 (10 * x5)) + 5))) (IntKind.u64.wrap (wrap64 ((wrap64 (10 * x5)) + 9)))).bind fun bt153 => (if bt153.1 = (mx (IntKind.u64.wrap (Int.tdiv x153000 2)) 2400) then (if bt153.2.1 = bt153.1 then (wigwaglaw10_RenoFalls.l0 k x0 x3 (wrap64 (x5 + 1)) bt153.1 bt153.2.1 bt153.2.2.1 bt153.2.2.2) else (some false)) else (some false))) else (if x3 = true then (some (decide (x153000 ≥ 2400))) else (some false))
end
def wigwaglaw10_RenoFalls.f (k : Nat) (a0 : Int) : Option (Bool) := (wigwaglaw10_awake.f k).bind fun t147 => (if a0 < 0 then (wigwaglaw10_RenoFalls.j0 k (wrap64 (-(wrap64 (a0 + 1)))) t147) else (wigwaglaw10_RenoFalls.j0 k a0 t147))
theorem wigwaglaw10_RenoFalls.mono_l : ∀ k, (∀ y0 y1, LeO (wigwaglaw10_RenoFalls.j0 k y0 y1) (wigwaglaw10_RenoFalls.j0 (k + 1) y0 y1)) ∧ (∀ y0 y1 y2 y3 y4 y5 y6, LeO (wigwaglaw10_RenoFalls.l0 k y0 y1 y2 y3 y4 y5 y6) (wigwaglaw10_RenoFalls.l0 (k + 1) y0 y1 y2 y3 y4 y5 y6))
  | 0 => ⟨fun _ _ r h => by simp [wigwaglaw10_RenoFalls.j0] at h, fun _ _ _ _ _ _ _ r h => by simp [wigwaglaw10_RenoFalls.l0] at h⟩
  | k + 1 => by
    obtain ⟨ih0, ih1⟩ := wigwaglaw10_RenoFalls.mono_l k
    refine ⟨?_, ?_⟩
    · intro y0 y1
      unfold wigwaglaw10_RenoFalls.j0
      repeat' first
      | (with_reducible exact ih0 _ _)
      | (with_reducible exact ih1 _ _ _ _ _ _ _)
      | (with_reducible exact wigwaglaw10_awake.mono _)
      | (with_reducible exact LeO.refl _)
      | (with_reducible exact LeO.none _)
      | (with_reducible refine LeO.ite ?_ ?_)
      | (with_reducible refine LeO.bind ?_ (fun _ => ?_))
      | exact ih0 _ _
      | exact ih1 _ _ _ _ _ _ _
      | exact wigwaglaw10_awake.mono _
      | exact LeO.none _
      | refine LeO.ite ?_ ?_
      | refine LeO.bind ?_ (fun _ => ?_)
    · intro y0 y1 y2 y3 y4 y5 y6
      unfold wigwaglaw10_RenoFalls.l0
      repeat' first
      | (with_reducible exact ih0 _ _)
      | (with_reducible exact ih1 _ _ _ _ _ _ _)
      | (with_reducible exact wigwaglaw10_awake.mono _)
      | (with_reducible exact LeO.refl _)
      | (with_reducible exact LeO.none _)
      | (with_reducible refine LeO.ite ?_ ?_)
      | (with_reducible refine LeO.bind ?_ (fun _ => ?_))
      | exact ih0 _ _
      | exact ih1 _ _ _ _ _ _ _
      | exact wigwaglaw10_awake.mono _
      | exact LeO.none _
      | refine LeO.ite ?_ ?_
      | refine LeO.bind ?_ (fun _ => ?_)
theorem wigwaglaw10_RenoFalls.mono : ∀ a0 k, LeO (wigwaglaw10_RenoFalls.f k a0) (wigwaglaw10_RenoFalls.f (k + 1) a0) := by
  intro a0 k
  obtain ⟨ih0, ih1⟩ := wigwaglaw10_RenoFalls.mono_l k
  unfold wigwaglaw10_RenoFalls.f
  repeat' first
      | (with_reducible exact ih0 _ _)
      | (with_reducible exact ih1 _ _ _ _ _ _ _)
      | (with_reducible exact wigwaglaw10_awake.mono _)
      | (with_reducible exact LeO.refl _)
      | (with_reducible exact LeO.none _)
      | (with_reducible refine LeO.ite ?_ ?_)
      | (with_reducible refine LeO.bind ?_ (fun _ => ?_))
      | exact ih0 _ _
      | exact ih1 _ _ _ _ _ _ _
      | exact wigwaglaw10_awake.mono _
      | exact LeO.none _
      | refine LeO.ite ?_ ?_
      | refine LeO.bind ?_ (fun _ => ?_)
set_option maxHeartbeats 8000000 in
set_option maxRecDepth 100000 in
theorem wigwaglaw10_RenoFalls.calls (k : Nat) (a0 : Int) (r : Bool) (w : World) (h : wigwaglaw10_RenoFalls.f k a0 = some r) :
    Calls Try.prog 9 #[.int .i64 a0] w fun e w' => e = .returned (.bool r) ∧ Below w.heap.size w w' := by
  have hu25 := Try.underlying25
  have HB := Aside0.mk (Below.refl w.heap.size w)
  have H : ((wigwaglaw10_awake.f k).bind fun t147 => (if a0 < 0 then (wigwaglaw10_RenoFalls.j0 k (wrap64 (-(wrap64 (a0 + 1)))) t147) else (wigwaglaw10_RenoFalls.j0 k a0 t147))) = some r := h
  clear h
  replace H := Option.bind_eq_some_iff.mp H
  obtain ⟨t147, A20, H⟩ := H
  replace H : (if a0 < 0 then (wigwaglaw10_RenoFalls.j0 k (wrap64 (-(wrap64 (a0 + 1)))) t147) else (wigwaglaw10_RenoFalls.j0 k a0 t147)) = some r := H
  have A2 := Aside0.mk A20
  clear A20
  have HC3 := Aside0.mk H
  clear H
  go_enter Try.func9, Try.ntmps9
  go_upto_if 9 with (first | ((with_reducible refine gate_callee (f := 10) rfl ?_); refine goesL_ (some 7) rfl rfl Try.func10 (by kernel_rfl) rfl #[] rfl (by (try simp only [List.map_toArray, List.map_cons, List.map_nil]); first | done | rfl | (simp only [List.length_drop, List.length_take]; rfl)) ?_; (with_reducible refine (wigwaglaw10_awake.calls k  t147 _ A2.out).mono ?_); rintro e w4 ⟨rfl, hb⟩; refine ⟨_, rfl, ?_⟩; have n0_ := Aside0.mk (below_step (by repeat (first | (with_reducible first | exact HB.out | apply below_alloc | apply pw_below_drewN | apply below_drew1) | exact HB.out)) hb); clear HB; have HB := n0_; clear n0_; (try clear hb); (try clear hb2); (try clear hk); (try clear hi)))
  (try simp only [Act.put, List.setIfInBounds_toArray, List.set_cons_zero, List.set_cons_succ])
  go_cut [0] (fun v0 wc => ∃ (kq : Nat) (x0_2 : Int), v0 = .int .i64 x0_2 ∧ Aside0 (wigwaglaw10_RenoFalls.j0 kq x0_2 t147 = some r) ∧ Aside0 (kq ≤ k) ∧ Aside0 (Below w.heap.size w wc))
  case first =>
    have H := HC3.out
    clear HC3
    by_cases c5 : a0 < 0
    · rw [if_pos c5] at H
      have c5b0 : decide (a0 < 0) = true := decide_eq_true c5
      clear c5
      (first | rw [c5b0] | (simp only [i64_w, i32_w]; rw [c5b0]) | skip)
      have H' := Aside0.mk H
      clear H
      go_wp2
      go_meet
      case rel => exact ⟨_, (wrap64 (-(wrap64 (a0 + 1)))), (by first | rfl | (simp; done) | (simp [*]; done)), H', ⟨by first | omega | exact Nat.le_refl _⟩, ⟨by repeat (first | (with_reducible first | exact HB.out | apply below_alloc | apply pw_below_drewN | apply below_drew1) | exact HB.out)⟩⟩
    · rw [if_neg c5] at H
      have c5b0 : decide (a0 < 0) = false := decide_eq_false c5
      clear c5
      (first | rw [c5b0] | (simp only [i64_w, i32_w]; rw [c5b0]) | skip)
      have H' := Aside0.mk H
      clear H
      go_wp2
      go_meet
      case rel => exact ⟨_, (a0), (by first | rfl | (simp; done) | (simp [*]; done)), H', ⟨by first | omega | exact Nat.le_refl _⟩, ⟨by repeat (first | (with_reducible first | exact HB.out | apply below_alloc | apply pw_below_drewN | apply below_drew1) | exact HB.out)⟩⟩
  case rest =>
    clear HC3
    try clear c1
    try clear p2
    try clear c5
    try clear c5b0
    obtain ⟨kq, x0_2, rfl, HA, HJ2, HB⟩ := hcut
    cases kq with
    | zero => exact absurd HA.out (by simp [wigwaglaw10_RenoFalls.j0])
    | succ kj2 =>
      have H := HA.out
      clear HA
      simp only [wigwaglaw10_RenoFalls.j0] at H
      replace H := Option.bind_eq_some_iff.mp H
      obtain ⟨⟨t148, t149, t150, t151⟩, A60, H⟩ := H
      replace H : (wigwaglaw10_RenoFalls.l0 kj2 x0_2 t147 0 t148 t149 t150 t151) = some r := H
      have A6 := Aside0.mk A60
      clear A60
      have H' := Aside0.mk H
      clear H
      go_wp2_with (first | ((with_reducible refine gate_callee (f := 19) rfl ?_); refine goesL_ (some 13) rfl rfl Try.func19 (by kernel_rfl) rfl #[] rfl (by (try simp only [List.map_toArray, List.map_cons, List.map_nil]); first | done | rfl | (simp only [List.length_drop, List.length_take]; rfl)) ?_; (with_reducible refine (reno_New.calls  t148 t149 t150 t151 _ A6.out).mono ?_); rintro e w7 ⟨rfl, hb⟩; refine ⟨_, rfl, ?_⟩; have n0_ := Aside0.mk (below_step (by repeat (first | (with_reducible first | exact HB.out | apply below_alloc | apply pw_below_drewN | apply below_drew1) | exact HB.out)) hb); clear HB; have HB := n0_; clear n0_; (try clear hb); (try clear hb2); (try clear hk); (try clear hi)) | ((with_reducible refine gate_dst (N := 4) rfl ?_); refine box_event ?hg (N := 4) ?hd (cs := #[.int .u64 0, .int .u64 0, .int .u64 0, .int .u64 0]) (t := 25) ?hr ?_; (case hd => rfl); (case hg => rfl); (case hr => first | (go_simp; done) | (go_simp; rfl)); intro gb152 hg w8 hbox hb; have n0_ := Aside0.mk (below_step (by repeat (first | (with_reducible first | exact HB.out | apply below_alloc | apply pw_below_drewN | apply below_drew1) | exact HB.out)) hb); have n1_ := Aside0.mk (hbox); have n2_ := Aside0.mk ((by rw [hg]; exact (below_size (by repeat (first | (with_reducible first | exact HB.out | apply below_alloc | apply pw_below_drewN | apply below_drew1) | exact HB.out))) : w.heap.size ≤ gb152)); have n3_ := Aside0.mk ((by rw [hg]; exact (below_size (by repeat (first | (with_reducible first | exact HB.out | apply below_alloc | apply pw_below_drewN | apply below_drew1) | exact HB.out))) : w.heap.size ≤ gb152)); clear HB; have HB := n0_; have BK152 := n1_; have GW152 := n2_; have GE152 := n3_; clear n0_ n1_ n2_ n3_; clear hb hbox hg; have hcz9_0 : w8.cell? ⟨gb152, 0, none⟩ = some (.int .u64 0) := (blk_cell BK152.out 0).trans rfl; have hcz9_1 : w8.cell? ⟨gb152, 1, none⟩ = some (.int .u64 0) := (blk_cell BK152.out 1).trans rfl; have hcz9_2 : w8.cell? ⟨gb152, 2, none⟩ = some (.int .u64 0) := (blk_cell BK152.out 2).trans rfl; have hcz9_3 : w8.cell? ⟨gb152, 3, none⟩ = some (.int .u64 0) := (blk_cell BK152.out 3).trans rfl; have hfz9_0 := blk_frozen BK152.out 0; have hfz9_1 := blk_frozen BK152.out 1; have hfz9_2 := blk_frozen BK152.out 2; have hfz9_3 := blk_frozen BK152.out 3))
      go_loopg [5] kj2 (fun kq v5 w' => ∃ (x5_2 : Int) (x153000_2 : Int) (x153001_2 : Int) (x153002_2 : Int) (x153003_2 : Int), v5 = .int .i64 x5_2 ∧ Aside0 (wigwaglaw10_RenoFalls.l0 kq x0_2 t147 x5_2 x153000_2 x153001_2 x153002_2 x153003_2 = some r) ∧ Aside0 (kq ≤ kj2) ∧ Aside0 (w'.heap[gb152]? = some (.cells #[.int .u64 x153000_2, .int .u64 x153001_2, .int .u64 x153002_2, .int .u64 x153003_2] 25 (0, 0))) ∧ Aside0 (Below w.heap.size w w'))
      case atStart => exact ⟨(0), (t148), (t149), (t150), (t151), (by first | rfl | (simp; done) | (simp [*]; done)), H', ⟨Nat.le_refl _⟩, ⟨by (with_reducible repeat (first | refine blk_drewN ?_ _ | refine blk_drew ?_ | refine blk_alloc ?_ _)); refine blk_put (cs := #[.int .u64 t148, .int .u64 t149, .int .u64 t150, .int .u64 0]) ?_ 3 _ rfl; (with_reducible repeat (first | refine blk_drewN ?_ _ | refine blk_drew ?_ | refine blk_alloc ?_ _)); refine blk_put (cs := #[.int .u64 t148, .int .u64 t149, .int .u64 0, .int .u64 0]) ?_ 2 _ rfl; (with_reducible repeat (first | refine blk_drewN ?_ _ | refine blk_drew ?_ | refine blk_alloc ?_ _)); refine blk_put (cs := #[.int .u64 t148, .int .u64 0, .int .u64 0, .int .u64 0]) ?_ 1 _ rfl; (with_reducible repeat (first | refine blk_drewN ?_ _ | refine blk_drew ?_ | refine blk_alloc ?_ _)); refine blk_put (cs := #[.int .u64 0, .int .u64 0, .int .u64 0, .int .u64 0]) ?_ 0 _ rfl; (with_reducible repeat (first | refine blk_drewN ?_ _ | refine blk_drew ?_ | refine blk_alloc ?_ _)); exact BK152.out⟩, ⟨by repeat (first | (with_reducible first | exact HB.out | apply below_alloc | apply pw_below_drewN | apply below_drew1 | refine below_set ?_ GE152.out) | exact HB.out)⟩⟩
      case round =>
        clear H'
        try clear c1
        try clear p2
        try clear c5
        try clear c5b0
        try clear p6
        try clear c9
        try clear hcz9_0
        try clear hcz9_1
        try clear hcz9_2
        try clear hcz9_3
        try clear hfz9_0
        try clear hfz9_1
        try clear hfz9_2
        try clear hfz9_3
        try clear p2
        obtain ⟨x5_2, x153000_2, x153001_2, x153002_2, x153003_2, rfl, HA, HK2, BK152, HB⟩ := hrel
        cases gk with
        | zero => exact absurd HA.out (by simp [wigwaglaw10_RenoFalls.l0])
        | succ k2 =>
          have H := HA.out
          clear HA
          simp only [wigwaglaw10_RenoFalls.l0] at H
          by_cases c10 : x5_2 < (Int.tmod x0_2 30)
          · rw [if_pos c10] at H
            have c10b0 : decide (x5_2 < (Int.tmod x0_2 30)) = true := decide_eq_true c10
            clear c10
            replace H := Option.bind_eq_some_iff.mp H
            obtain ⟨⟨t153, t154, t155, t156⟩, A110, H⟩ := H
            replace H : (if t153 = (mx (IntKind.u64.wrap (Int.tdiv x153000_2 2)) 2400) then (if t154 = t153 then (wigwaglaw10_RenoFalls.l0 k2 x0_2 t147 (wrap64 (x5_2 + 1)) t153 t154 t155 t156) else (some false)) else (some false)) = some r := H
            have A11 := Aside0.mk A110
            clear A110
            have HS12 := Aside0.mk H
            clear H
            have hcz13_0 : wr.cell? ⟨gb152, 0, none⟩ = some (.int .u64 x153000_2) := (blk_cell BK152.out 0).trans rfl
            have hcz13_1 : wr.cell? ⟨gb152, 1, none⟩ = some (.int .u64 x153001_2) := (blk_cell BK152.out 1).trans rfl
            have hcz13_2 : wr.cell? ⟨gb152, 2, none⟩ = some (.int .u64 x153002_2) := (blk_cell BK152.out 2).trans rfl
            have hcz13_3 : wr.cell? ⟨gb152, 3, none⟩ = some (.int .u64 x153003_2) := (blk_cell BK152.out 3).trans rfl
            have hfz13_0 := blk_frozen BK152.out 0
            have hfz13_1 := blk_frozen BK152.out 1
            have hfz13_2 := blk_frozen BK152.out 2
            have hfz13_3 := blk_frozen BK152.out 3
            go_upto_region 9 with (first | ((with_reducible refine gate_callee (f := 13) rfl ?_); refine goesL_ (some 29) rfl rfl Try.func13 (by kernel_rfl) rfl #[.agg #[.int .u64 x153000_2, .int .u64 x153001_2, .int .u64 x153002_2, .int .u64 x153003_2], .int .u64 (IntKind.u64.wrap (wrap64 ((wrap64 (10 * x5_2)) + 5))), .int .u64 (IntKind.u64.wrap (wrap64 ((wrap64 (10 * x5_2)) + 9)))] rfl (by (try simp only [List.map_toArray, List.map_cons, List.map_nil]); first | done | rfl | (simp only [List.length_drop, List.length_take]; rfl)) ?_; (with_reducible refine (reno_Loss.calls x153000_2 x153001_2 x153002_2 x153003_2 (IntKind.u64.wrap (wrap64 ((wrap64 (10 * x5_2)) + 5))) (IntKind.u64.wrap (wrap64 ((wrap64 (10 * x5_2)) + 9))) t153 t154 t155 t156 _ A11.out).mono ?_); rintro e w14 ⟨rfl, hb⟩; refine ⟨_, rfl, ?_⟩; have n0_ := Aside0.mk (blk_below (g := gb152) (o := .cells #[.int .u64 x153000_2, .int .u64 x153001_2, .int .u64 x153002_2, .int .u64 x153003_2] 25 (0, 0)) (by (with_reducible repeat (first | refine blk_drewN ?_ _ | refine blk_drew ?_ | refine blk_alloc ?_ _)); exact BK152.out) hb); have n1_ := Aside0.mk (below_step (by repeat (first | (with_reducible first | exact HB.out | apply below_alloc | apply pw_below_drewN | apply below_drew1 | refine below_set ?_ GE152.out) | exact HB.out)) hb); clear BK152; clear HB; have BK152 := n0_; have HB := n1_; clear n0_ n1_; (try clear hb); (try clear hb2); (try clear hk); (try clear hi)) | ((with_reducible refine gate_dst (N := 6) rfl ?_); refine box_event ?hg (N := 6) ?hd (cs := #[.int .u64 0, .int .u64 0, .int .u64 0, .int .u64 0]) (t := 25) ?hr ?_; (case hd => rfl); (case hg => rfl); (case hr => first | (go_simp; done) | (go_simp; rfl)); intro gb157 hg w15 hbox hb; have n0_ := Aside0.mk (blk_below (g := gb152) (o := .cells #[.int .u64 x153000_2, .int .u64 x153001_2, .int .u64 x153002_2, .int .u64 x153003_2] 25 (0, 0)) (by (with_reducible repeat (first | refine blk_drewN ?_ _ | refine blk_drew ?_ | refine blk_alloc ?_ _)); exact BK152.out) hb); have n1_ := Aside0.mk (below_step (by repeat (first | (with_reducible first | exact HB.out | apply below_alloc | apply pw_below_drewN | apply below_drew1 | refine below_set ?_ GE152.out) | exact HB.out)) hb); have n2_ := Aside0.mk (hbox); have n3_ := Aside0.mk ((by rw [hg]; exact (below_size (by repeat (first | (with_reducible first | exact HB.out | apply below_alloc | apply pw_below_drewN | apply below_drew1 | refine below_set ?_ GE152.out) | exact HB.out))) : w.heap.size ≤ gb157)); have n4_ := Aside0.mk ((by rw [hg]; exact (below_size (by repeat (first | (with_reducible first | exact HB.out | apply below_alloc | apply pw_below_drewN | apply below_drew1 | refine below_set ?_ GE152.out) | exact HB.out))) : w.heap.size ≤ gb157)); have n5_ := Aside0.mk ((by rw [hg]; exact Nat.ne_of_lt (blk_lt (g := gb152) (o := .cells #[.int .u64 x153000_2, .int .u64 x153001_2, .int .u64 x153002_2, .int .u64 x153003_2] 25 (0, 0)) (by (with_reducible repeat (first | refine blk_drewN ?_ _ | refine blk_drew ?_ | refine blk_alloc ?_ _)); exact BK152.out)) : gb152 ≠ gb157)); have n6_ := Aside0.mk ((by rw [hg]; exact Nat.ne_of_gt (blk_lt (g := gb152) (o := .cells #[.int .u64 x153000_2, .int .u64 x153001_2, .int .u64 x153002_2, .int .u64 x153003_2] 25 (0, 0)) (by (with_reducible repeat (first | refine blk_drewN ?_ _ | refine blk_drew ?_ | refine blk_alloc ?_ _)); exact BK152.out)) : gb157 ≠ gb152)); clear BK152; clear HB; have BK152 := n0_; have HB := n1_; have BK157 := n2_; have GW157 := n3_; have GE157 := n4_; have NB152_157 := n5_; have NB157_152 := n6_; clear n0_ n1_ n2_ n3_ n4_ n5_ n6_; clear hb hbox hg; have hnb16 := NB157_152.out; have hnc16 := NB152_157.out; have hcz17_0 : w15.cell? ⟨gb157, 0, none⟩ = some (.int .u64 0) := (blk_cell BK157.out 0).trans rfl; have hcz17_1 : w15.cell? ⟨gb157, 1, none⟩ = some (.int .u64 0) := (blk_cell BK157.out 1).trans rfl; have hcz17_2 : w15.cell? ⟨gb157, 2, none⟩ = some (.int .u64 0) := (blk_cell BK157.out 2).trans rfl; have hcz17_3 : w15.cell? ⟨gb157, 3, none⟩ = some (.int .u64 0) := (blk_cell BK157.out 3).trans rfl; have hfz17_0 := blk_frozen BK157.out 0; have hfz17_1 := blk_frozen BK157.out 1; have hfz17_2 := blk_frozen BK157.out 2; have hfz17_3 := blk_frozen BK157.out 3))
            (try simp only [Act.put, List.setIfInBounds_toArray, List.set_cons_zero, List.set_cons_succ])
            have H := HS12.out
            clear HS12
            obtain ⟨ji18, hji18⟩ : ∃ j_ : Int, (mx (IntKind.u64.wrap (Int.tdiv x153000_2 2)) 2400) = j_ := ⟨_, rfl⟩
            replace H : (if t153 = (ji18) then (if t154 = t153 then (wigwaglaw10_RenoFalls.l0 k2 x0_2 t147 (wrap64 (x5_2 + 1)) t153 t154 t155 t156) else (some false)) else (some false)) = some r := by first | (rw [hji18] at H; exact H) | (simp only [hji18] at H ⊢; exact H)
            have hji18_ : (if (IntKind.u64.wrap (Int.tdiv x153000_2 2)) < 2400 then 2400 else (IntKind.u64.wrap (Int.tdiv x153000_2 2))) = ji18 := hji18
            by_cases c19 : t153 = (ji18)
            · rw [if_pos c19] at H
              have c19b0 : (t153 == (ji18)) = true := beq_iff_eq.mpr c19
              have c19b1 : (t153 != (ji18)) = false := bne_eq_false_iff_eq.mpr c19
              clear c19
              by_cases c20 : t154 = t153
              · rw [if_pos c20] at H
                have c20b0 : (t154 == t153) = true := beq_iff_eq.mpr c20
                have c20b1 : (t154 != t153) = false := bne_eq_false_iff_eq.mpr c20
                clear c20
                have H' := Aside0.mk H
                clear H
                have hnb21 := NB157_152.out
                have hnc21 := NB152_157.out
                have hcz22_0 : w15.cell? ⟨gb157, 0, none⟩ = some (.int .u64 0) := (blk_cell BK157.out 0).trans rfl
                have hcz22_1 : w15.cell? ⟨gb157, 1, none⟩ = some (.int .u64 0) := (blk_cell BK157.out 1).trans rfl
                have hcz22_2 : w15.cell? ⟨gb157, 2, none⟩ = some (.int .u64 0) := (blk_cell BK157.out 2).trans rfl
                have hcz22_3 : w15.cell? ⟨gb157, 3, none⟩ = some (.int .u64 0) := (blk_cell BK157.out 3).trans rfl
                have hfz22_0 := blk_frozen BK157.out 0
                have hfz22_1 := blk_frozen BK157.out 1
                have hfz22_2 := blk_frozen BK157.out 2
                have hfz22_3 := blk_frozen BK157.out 3
                have hcz23_0 : w15.cell? ⟨gb152, 0, none⟩ = some (.int .u64 x153000_2) := (blk_cell BK152.out 0).trans rfl
                have hcz23_1 : w15.cell? ⟨gb152, 1, none⟩ = some (.int .u64 x153001_2) := (blk_cell BK152.out 1).trans rfl
                have hcz23_2 : w15.cell? ⟨gb152, 2, none⟩ = some (.int .u64 x153002_2) := (blk_cell BK152.out 2).trans rfl
                have hcz23_3 : w15.cell? ⟨gb152, 3, none⟩ = some (.int .u64 x153003_2) := (blk_cell BK152.out 3).trans rfl
                have hfz23_0 := blk_frozen BK152.out 0
                have hfz23_1 := blk_frozen BK152.out 1
                have hfz23_2 := blk_frozen BK152.out 2
                have hfz23_3 := blk_frozen BK152.out 3
                go_wp2
                go_roundg k2
                case measure => have := HJ2.out; have := HK2.out; omega
                case rel => exact ⟨(wrap64 (x5_2 + 1)), (t153), (t154), (t155), (t156), (by first | rfl | (simp; done) | (simp [*]; done)), H', ⟨by have := HJ2.out; have := HK2.out; omega⟩, ⟨by (with_reducible repeat (first | refine blk_drewN ?_ _ | refine blk_drew ?_ | refine blk_alloc ?_ _)); refine blk_put (cs := #[.int .u64 t153, .int .u64 t154, .int .u64 t155, .int .u64 x153003_2]) ?_ 3 _ rfl; (with_reducible repeat (first | refine blk_drewN ?_ _ | refine blk_drew ?_ | refine blk_alloc ?_ _)); refine blk_put (cs := #[.int .u64 t153, .int .u64 t154, .int .u64 x153002_2, .int .u64 x153003_2]) ?_ 2 _ rfl; (with_reducible repeat (first | refine blk_drewN ?_ _ | refine blk_drew ?_ | refine blk_alloc ?_ _)); refine blk_put (cs := #[.int .u64 t153, .int .u64 x153001_2, .int .u64 x153002_2, .int .u64 x153003_2]) ?_ 1 _ rfl; (with_reducible repeat (first | refine blk_drewN ?_ _ | refine blk_drew ?_ | refine blk_alloc ?_ _)); refine blk_put (cs := #[.int .u64 x153000_2, .int .u64 x153001_2, .int .u64 x153002_2, .int .u64 x153003_2]) ?_ 0 _ rfl; (with_reducible repeat (first | refine blk_drewN ?_ _ | refine blk_drew ?_ | refine blk_alloc ?_ _)); refine blk_far ?_ NB152_157.out _; (with_reducible repeat (first | refine blk_drewN ?_ _ | refine blk_drew ?_ | refine blk_alloc ?_ _)); refine blk_far ?_ NB152_157.out _; (with_reducible repeat (first | refine blk_drewN ?_ _ | refine blk_drew ?_ | refine blk_alloc ?_ _)); refine blk_far ?_ NB152_157.out _; (with_reducible repeat (first | refine blk_drewN ?_ _ | refine blk_drew ?_ | refine blk_alloc ?_ _)); refine blk_far ?_ NB152_157.out _; (with_reducible repeat (first | refine blk_drewN ?_ _ | refine blk_drew ?_ | refine blk_alloc ?_ _)); exact BK152.out⟩, ⟨by repeat (first | (with_reducible first | exact HB.out | apply below_alloc | apply pw_below_drewN | apply below_drew1 | refine below_set ?_ GE152.out | refine below_set ?_ GE157.out) | exact HB.out)⟩⟩
              · rw [if_neg c20] at H
                have c20b0 : (t154 == t153) = false := beq_eq_false_iff_ne.mpr c20
                have c20b1 : (t154 != t153) = true := bne_iff_ne.mpr c20
                obtain rfl := Option.some.inj H
                have hnb24 := NB157_152.out
                have hnc24 := NB152_157.out
                have hcz25_0 : w15.cell? ⟨gb157, 0, none⟩ = some (.int .u64 0) := (blk_cell BK157.out 0).trans rfl
                have hcz25_1 : w15.cell? ⟨gb157, 1, none⟩ = some (.int .u64 0) := (blk_cell BK157.out 1).trans rfl
                have hcz25_2 : w15.cell? ⟨gb157, 2, none⟩ = some (.int .u64 0) := (blk_cell BK157.out 2).trans rfl
                have hcz25_3 : w15.cell? ⟨gb157, 3, none⟩ = some (.int .u64 0) := (blk_cell BK157.out 3).trans rfl
                have hfz25_0 := blk_frozen BK157.out 0
                have hfz25_1 := blk_frozen BK157.out 1
                have hfz25_2 := blk_frozen BK157.out 2
                have hfz25_3 := blk_frozen BK157.out 3
                have hcz26_0 : w15.cell? ⟨gb152, 0, none⟩ = some (.int .u64 x153000_2) := (blk_cell BK152.out 0).trans rfl
                have hcz26_1 : w15.cell? ⟨gb152, 1, none⟩ = some (.int .u64 x153001_2) := (blk_cell BK152.out 1).trans rfl
                have hcz26_2 : w15.cell? ⟨gb152, 2, none⟩ = some (.int .u64 x153002_2) := (blk_cell BK152.out 2).trans rfl
                have hcz26_3 : w15.cell? ⟨gb152, 3, none⟩ = some (.int .u64 x153003_2) := (blk_cell BK152.out 3).trans rfl
                have hfz26_0 := blk_frozen BK152.out 0
                have hfz26_1 := blk_frozen BK152.out 1
                have hfz26_2 := blk_frozen BK152.out 2
                have hfz26_3 := blk_frozen BK152.out 3
                go_wp2
                go_ret
                exact ⟨by first | rfl | (simp [errW_none, errW_some] <;> rfl) | (simp only [← hji18]; first | rfl | (simp [errW_none, errW_some] <;> rfl)) | (simp [*, errW_none, errW_some] <;> rfl), by repeat (first | (with_reducible first | exact HB.out | apply below_alloc | apply pw_below_drewN | apply below_drew1 | refine below_set ?_ GE152.out | refine below_set ?_ GE157.out) | exact HB.out)⟩
            · rw [if_neg c19] at H
              have c19b0 : (t153 == (ji18)) = false := beq_eq_false_iff_ne.mpr c19
              have c19b1 : (t153 != (ji18)) = true := bne_iff_ne.mpr c19
              obtain rfl := Option.some.inj H
              have hnb27 := NB157_152.out
              have hnc27 := NB152_157.out
              have hcz28_0 : w15.cell? ⟨gb157, 0, none⟩ = some (.int .u64 0) := (blk_cell BK157.out 0).trans rfl
              have hcz28_1 : w15.cell? ⟨gb157, 1, none⟩ = some (.int .u64 0) := (blk_cell BK157.out 1).trans rfl
              have hcz28_2 : w15.cell? ⟨gb157, 2, none⟩ = some (.int .u64 0) := (blk_cell BK157.out 2).trans rfl
              have hcz28_3 : w15.cell? ⟨gb157, 3, none⟩ = some (.int .u64 0) := (blk_cell BK157.out 3).trans rfl
              have hfz28_0 := blk_frozen BK157.out 0
              have hfz28_1 := blk_frozen BK157.out 1
              have hfz28_2 := blk_frozen BK157.out 2
              have hfz28_3 := blk_frozen BK157.out 3
              have hcz29_0 : w15.cell? ⟨gb152, 0, none⟩ = some (.int .u64 x153000_2) := (blk_cell BK152.out 0).trans rfl
              have hcz29_1 : w15.cell? ⟨gb152, 1, none⟩ = some (.int .u64 x153001_2) := (blk_cell BK152.out 1).trans rfl
              have hcz29_2 : w15.cell? ⟨gb152, 2, none⟩ = some (.int .u64 x153002_2) := (blk_cell BK152.out 2).trans rfl
              have hcz29_3 : w15.cell? ⟨gb152, 3, none⟩ = some (.int .u64 x153003_2) := (blk_cell BK152.out 3).trans rfl
              have hfz29_0 := blk_frozen BK152.out 0
              have hfz29_1 := blk_frozen BK152.out 1
              have hfz29_2 := blk_frozen BK152.out 2
              have hfz29_3 := blk_frozen BK152.out 3
              go_wp2
              go_ret
              exact ⟨by first | rfl | (simp [errW_none, errW_some] <;> rfl) | (simp only [← hji18]; first | rfl | (simp [errW_none, errW_some] <;> rfl)) | (simp [*, errW_none, errW_some] <;> rfl), by repeat (first | (with_reducible first | exact HB.out | apply below_alloc | apply pw_below_drewN | apply below_drew1 | refine below_set ?_ GE152.out | refine below_set ?_ GE157.out) | exact HB.out)⟩
          · rw [if_neg c10] at H
            have c10b0 : decide (x5_2 < (Int.tmod x0_2 30)) = false := decide_eq_false c10
            clear c10
            by_cases c30 : t147 = true
            · subst c30
              have H1 : (some (decide (x153000_2 ≥ 2400))) = some r := by rw [if_pos rfl] at H; exact H
              clear H
              have H := H1
              clear H1
              obtain rfl := Option.some.inj H
              have hcz31_0 : wr.cell? ⟨gb152, 0, none⟩ = some (.int .u64 x153000_2) := (blk_cell BK152.out 0).trans rfl
              have hcz31_1 : wr.cell? ⟨gb152, 1, none⟩ = some (.int .u64 x153001_2) := (blk_cell BK152.out 1).trans rfl
              have hcz31_2 : wr.cell? ⟨gb152, 2, none⟩ = some (.int .u64 x153002_2) := (blk_cell BK152.out 2).trans rfl
              have hcz31_3 : wr.cell? ⟨gb152, 3, none⟩ = some (.int .u64 x153003_2) := (blk_cell BK152.out 3).trans rfl
              have hfz31_0 := blk_frozen BK152.out 0
              have hfz31_1 := blk_frozen BK152.out 1
              have hfz31_2 := blk_frozen BK152.out 2
              have hfz31_3 := blk_frozen BK152.out 3
              go_wp2
              go_ret
              exact ⟨by first | rfl | (simp [errW_none, errW_some] <;> rfl) | (simp [*, errW_none, errW_some] <;> rfl), by repeat (first | (with_reducible first | exact HB.out | apply below_alloc | apply pw_below_drewN | apply below_drew1 | refine below_set ?_ GE152.out) | exact HB.out)⟩
            · replace c30 := Bool.eq_false_iff.mpr c30
              subst c30
              have H1 : (some false) = some r := by rw [if_neg (show ¬ (false = true) by decide)] at H; exact H
              clear H
              have H := H1
              clear H1
              obtain rfl := Option.some.inj H
              go_wp2
              go_ret
              exact ⟨by first | rfl | (simp [errW_none, errW_some] <;> rfl) | (simp [*, errW_none, errW_some] <;> rfl), by repeat (first | (with_reducible first | exact HB.out | apply below_alloc | apply pw_below_drewN | apply below_drew1 | refine below_set ?_ GE152.out) | exact HB.out)⟩

/-- THE ONE PURE STATEMENT of wigwaglaw10_RenoFalls: yours. -/
def wigwaglaw10_RenoFalls.Pure : Prop := ∀ (a0 : Int), (Lit.int .i64 a0).wf = true → ∃ k, wigwaglaw10_RenoFalls.f k a0 = some true
theorem wigwaglaw10_RenoFalls.walk (P : wigwaglaw10_RenoFalls.Pure) (a0 : Int) (w : World) (w0 : (Lit.int .i64 a0).wf = true) :
    Calls Try.prog 9 #[.int .i64 a0] w fun e w' => e = .returned (.bool true) ∧ Below w.heap.size w w' := by
  obtain ⟨k, h⟩ := P a0 w0
  refine (wigwaglaw10_RenoFalls.calls k a0 true w h).mono ?_
  rintro e w' ⟨rfl, hd⟩
  exact ⟨rfl, hd⟩

end Go.Proofs.Ytmajccpifkbdpaa.P
