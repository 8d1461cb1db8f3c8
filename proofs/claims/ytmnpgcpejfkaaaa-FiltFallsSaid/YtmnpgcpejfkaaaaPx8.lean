-- Printed for this claim by xprint.py of this session: contracts of this session's own stand in for what the print does not take
import Derived.Test.YtmnpgcpejfkaaaaPx0
import Derived.Test.YtmnpgcpejfkaaaaPx1
import Derived.Test.YtmnpgcpejfkaaaaPx3
import Derived.Test.YtmnpgcpejfkaaaaPx5
import Derived.Test.YtmnpgcpejfkaaaaPx6
namespace Go.Proofs.Ytmnpgcpejfkaaaa.P
open Go.RowKit Go.Proofs.YtmnpgcpejfkaaaaW.PrintWords Go.Proofs.YtmnpgcpejfkaaaaW.PrintLast Go.Proofs.YtmnpgcpejfkaaaaW.PrintMore
attribute [local go_sem] max2_int min2_int max_two min_two max_three min_three max_four min_four   -- for this text's walks alone
set_option linter.unusedVariables false
set_option linter.unusedSimpArgs false

attribute [local go_sem high] eqA25
/-! ### wigwaglaw02_FiltFalls: function 5 -/
mutual
def wigwaglaw02_FiltFalls.j0 : Nat → List (S25) → Bool → List (S25) → List (S25) → List (S25) → Bool → Int → Int → Option (Bool)
  | 0, _, _, _, _, _, _, _, _ => none
  | k + 1, x0, x7, x8, x9, x10, x57, x178000, x178001 => if x57 = true then (some false) else (wigwaglaw02_FiltFalls.l0 k x0 x7 x8 x9 x10 0 x178000 x178001)
def wigwaglaw02_FiltFalls.l0 : Nat → List (S25) → Bool → List (S25) → List (S25) → List (S25) → Int → Int → Int → Option (Bool)
  | 0, _, _, _, _, _, _, _, _ => none
  | k + 1, x0, x7, x8, x9, x10, x11, x178000, x178001 => if x11 < (wrap64 ((x9.length : Int) - 1)) then (if 0 ≤ x11 then (if x11 < (x9.length : Int) then (if ((rd_T25 x9 x11).f1) ≤ x178001 then (some false) else (wigwaglaw02_FiltFalls.l0 k x0 x7 x8 x9 x10 (wrap64 (x11 + 1)) x178000 x178001)) else (none)) else (none)) else (wigwaglaw02_FiltFalls.l1 k x0 x7 x8 x9 x10 0 x178000 x178001)
def wigwaglaw02_FiltFalls.l1 : Nat → List (S25) → Bool → List (S25) → List (S25) → List (S25) → Int → Int → Int → Option (Bool)
  | 0, _, _, _, _, _, _, _, _ => none
  | k + 1, x0, x7, x8, x9, x10, x12, x178000, x178001 => if x12 < (wrap64 ((x10.length : Int) - 1)) then (if 0 ≤ x12 then (if x12 < (x10.length : Int) then (if ((rd_T25 x10 x12).f1) ≥ x178001 then (some false) else (wigwaglaw02_FiltFalls.l1 k x0 x7 x8 x9 x10 (wrap64 (x12 + 1)) x178000 x178001)) else (none)) else (none)) else (if 0 < (x9.length : Int) then (if 0 < (x10.length : Int) then ((wigwagref02_Same.f k x8 x0).bind fun t197 => (if x7 = true then (some t197) else (some false))) else (none)) else (none))
end
def wigwaglaw02_FiltFalls.f (k : Nat) (l0 : List (S25)) (a1 : Int) (a2_0 : Int) (a2_1 : Int) : Option (Bool) := (wigwaglaw02_awake.f k).bind fun t178 => (if (l0.length : Int) > 300 then (some t178) else ((some (([] : List (S25)) : List (S25))).bind fun y179 => (if y179.length + l0.length < 8796093022208 then ((some (y179 ++ l0 : List (S25))).bind fun y182 => ((filt_PushMax.f k y182 a1 a2_0 a2_1).bind fun t185 => ((filt_PushMin.f k y182 a1 a2_0 a2_1).bind fun t188 => (if (t185.length : Int) = 0 then (wigwaglaw02_FiltFalls.j0 k l0 t178 y182 t185 t188 true a2_0 a2_1) else (if (t188.length : Int) = 0 then (wigwaglaw02_FiltFalls.j0 k l0 t178 y182 t185 t188 true a2_0 a2_1) else (if 0 ≤ (wrap64 ((t185.length : Int) - 1)) then (if (wrap64 ((t185.length : Int) - 1)) < (t185.length : Int) then (if (!(((rd_T25 t185 (wrap64 ((t185.length : Int) - 1))).f0) == a2_0) || (!(((rd_T25 t185 (wrap64 ((t185.length : Int) - 1))).f1) == a2_1))) = true then (wigwaglaw02_FiltFalls.j0 k l0 t178 y182 t185 t188 true a2_0 a2_1) else (if 0 ≤ (wrap64 ((t188.length : Int) - 1)) then (if (wrap64 ((t188.length : Int) - 1)) < (t188.length : Int) then (wigwaglaw02_FiltFalls.j0 k l0 t178 y182 t185 t188 (!(((rd_T25 t188 (wrap64 ((t188.length : Int) - 1))).f0) == a2_0) || (!(((rd_T25 t188 (wrap64 ((t188.length : Int) - 1))).f1) == a2_1))) a2_0 a2_1) else (none)) else (none))) else (none)) else (none))))))) else (none))))
theorem wigwaglaw02_FiltFalls.mono_l : ∀ k, (∀ y0 y1 y2 y3 y4 y5 y6 y7, LeO (wigwaglaw02_FiltFalls.j0 k y0 y1 y2 y3 y4 y5 y6 y7) (wigwaglaw02_FiltFalls.j0 (k + 1) y0 y1 y2 y3 y4 y5 y6 y7)) ∧ (∀ y0 y1 y2 y3 y4 y5 y6 y7, LeO (wigwaglaw02_FiltFalls.l0 k y0 y1 y2 y3 y4 y5 y6 y7) (wigwaglaw02_FiltFalls.l0 (k + 1) y0 y1 y2 y3 y4 y5 y6 y7)) ∧ (∀ y0 y1 y2 y3 y4 y5 y6 y7, LeO (wigwaglaw02_FiltFalls.l1 k y0 y1 y2 y3 y4 y5 y6 y7) (wigwaglaw02_FiltFalls.l1 (k + 1) y0 y1 y2 y3 y4 y5 y6 y7))
  | 0 => ⟨fun _ _ _ _ _ _ _ _ r h => by simp [wigwaglaw02_FiltFalls.j0] at h, fun _ _ _ _ _ _ _ _ r h => by simp [wigwaglaw02_FiltFalls.l0] at h, fun _ _ _ _ _ _ _ _ r h => by simp [wigwaglaw02_FiltFalls.l1] at h⟩
  | k + 1 => by
    obtain ⟨ih0, ih1, ih2⟩ := wigwaglaw02_FiltFalls.mono_l k
    refine ⟨?_, ?_, ?_⟩
    · intro y0 y1 y2 y3 y4 y5 y6 y7
      unfold wigwaglaw02_FiltFalls.j0
      repeat' first
      | (with_reducible exact ih0 _ _ _ _ _ _ _ _)
      | (with_reducible exact ih1 _ _ _ _ _ _ _ _)
      | (with_reducible exact ih2 _ _ _ _ _ _ _ _)
      | (with_reducible exact filt_PushMax.mono _ _ _ _ _)
      | (with_reducible exact filt_PushMin.mono _ _ _ _ _)
      | (with_reducible exact wigwaglaw02_awake.mono _)
      | (with_reducible exact wigwagref02_Same.mono _ _ _)
      | (with_reducible exact LeO.refl _)
      | (with_reducible exact LeO.none _)
      | (with_reducible refine LeO.ite ?_ ?_)
      | (with_reducible refine LeO.bind ?_ (fun _ => ?_))
      | exact ih0 _ _ _ _ _ _ _ _
      | exact ih1 _ _ _ _ _ _ _ _
      | exact ih2 _ _ _ _ _ _ _ _
      | exact filt_PushMax.mono _ _ _ _ _
      | exact filt_PushMin.mono _ _ _ _ _
      | exact wigwaglaw02_awake.mono _
      | exact wigwagref02_Same.mono _ _ _
      | exact LeO.none _
      | refine LeO.ite ?_ ?_
      | refine LeO.bind ?_ (fun _ => ?_)
    · intro y0 y1 y2 y3 y4 y5 y6 y7
      unfold wigwaglaw02_FiltFalls.l0
      repeat' first
      | (with_reducible exact ih0 _ _ _ _ _ _ _ _)
      | (with_reducible exact ih1 _ _ _ _ _ _ _ _)
      | (with_reducible exact ih2 _ _ _ _ _ _ _ _)
      | (with_reducible exact filt_PushMax.mono _ _ _ _ _)
      | (with_reducible exact filt_PushMin.mono _ _ _ _ _)
      | (with_reducible exact wigwaglaw02_awake.mono _)
      | (with_reducible exact wigwagref02_Same.mono _ _ _)
      | (with_reducible exact LeO.refl _)
      | (with_reducible exact LeO.none _)
      | (with_reducible refine LeO.ite ?_ ?_)
      | (with_reducible refine LeO.bind ?_ (fun _ => ?_))
      | exact ih0 _ _ _ _ _ _ _ _
      | exact ih1 _ _ _ _ _ _ _ _
      | exact ih2 _ _ _ _ _ _ _ _
      | exact filt_PushMax.mono _ _ _ _ _
      | exact filt_PushMin.mono _ _ _ _ _
      | exact wigwaglaw02_awake.mono _
      | exact wigwagref02_Same.mono _ _ _
      | exact LeO.none _
      | refine LeO.ite ?_ ?_
      | refine LeO.bind ?_ (fun _ => ?_)
    · intro y0 y1 y2 y3 y4 y5 y6 y7
      unfold wigwaglaw02_FiltFalls.l1
      repeat' first
      | (with_reducible exact ih0 _ _ _ _ _ _ _ _)
      | (with_reducible exact ih1 _ _ _ _ _ _ _ _)
      | (with_reducible exact ih2 _ _ _ _ _ _ _ _)
      | (with_reducible exact filt_PushMax.mono _ _ _ _ _)
      | (with_reducible exact filt_PushMin.mono _ _ _ _ _)
      | (with_reducible exact wigwaglaw02_awake.mono _)
      | (with_reducible exact wigwagref02_Same.mono _ _ _)
      | (with_reducible exact LeO.refl _)
      | (with_reducible exact LeO.none _)
      | (with_reducible refine LeO.ite ?_ ?_)
      | (with_reducible refine LeO.bind ?_ (fun _ => ?_))
      | exact ih0 _ _ _ _ _ _ _ _
      | exact ih1 _ _ _ _ _ _ _ _
      | exact ih2 _ _ _ _ _ _ _ _
      | exact filt_PushMax.mono _ _ _ _ _
      | exact filt_PushMin.mono _ _ _ _ _
      | exact wigwaglaw02_awake.mono _
      | exact wigwagref02_Same.mono _ _ _
      | exact LeO.none _
      | refine LeO.ite ?_ ?_
      | refine LeO.bind ?_ (fun _ => ?_)
theorem wigwaglaw02_FiltFalls.mono : ∀ a0 a1 a2 a3 k, LeO (wigwaglaw02_FiltFalls.f k a0 a1 a2 a3) (wigwaglaw02_FiltFalls.f (k + 1) a0 a1 a2 a3) := by
  intro a0 a1 a2 a3 k
  obtain ⟨ih0, ih1, ih2⟩ := wigwaglaw02_FiltFalls.mono_l k
  unfold wigwaglaw02_FiltFalls.f
  repeat' first
      | (with_reducible exact ih0 _ _ _ _ _ _ _ _)
      | (with_reducible exact ih1 _ _ _ _ _ _ _ _)
      | (with_reducible exact ih2 _ _ _ _ _ _ _ _)
      | (with_reducible exact filt_PushMax.mono _ _ _ _ _)
      | (with_reducible exact filt_PushMin.mono _ _ _ _ _)
      | (with_reducible exact wigwaglaw02_awake.mono _)
      | (with_reducible exact wigwagref02_Same.mono _ _ _)
      | (with_reducible exact LeO.refl _)
      | (with_reducible exact LeO.none _)
      | (with_reducible refine LeO.ite ?_ ?_)
      | (with_reducible refine LeO.bind ?_ (fun _ => ?_))
      | exact ih0 _ _ _ _ _ _ _ _
      | exact ih1 _ _ _ _ _ _ _ _
      | exact ih2 _ _ _ _ _ _ _ _
      | exact filt_PushMax.mono _ _ _ _ _
      | exact filt_PushMin.mono _ _ _ _ _
      | exact wigwaglaw02_awake.mono _
      | exact wigwagref02_Same.mono _ _ _
      | exact LeO.none _
      | refine LeO.ite ?_ ?_
      | refine LeO.bind ?_ (fun _ => ?_)
set_option maxHeartbeats 8000000 in
set_option maxRecDepth 100000 in
theorem wigwaglaw02_FiltFalls.calls (k : Nat) (A0 : Option Addr) (c0 : Nat) (l0 : List (S25)) (a1 : Int) (a2_0 : Int) (a2_1 : Int) (r : Bool) (w : World) (hr0 : Kd.C k25 w A0 l0.length l0) (hc0 : l0.length ≤ c0) (h : wigwaglaw02_FiltFalls.f k l0 a1 a2_0 a2_1 = some r) :
    Calls Try.prog 5 #[.slice A0 l0.length c0, .int .u64 a1, .agg #[.int .u64 a2_0, .int .u64 a2_1]] w fun e w' => e = .returned (.bool r) ∧ Below w.heap.size w w' := by
  have hu25 := Try.underlying25
  have HR0 := Aside0.mk hr0
  have HC0 := Aside0.mk hc0
  clear hr0 hc0
  have HB := Aside0.mk (Below.refl w.heap.size w)
  have H : ((wigwaglaw02_awake.f k).bind fun t178 => (if (l0.length : Int) > 300 then (some t178) else ((some (([] : List (S25)) : List (S25))).bind fun y179 => (if y179.length + l0.length < 8796093022208 then ((some (y179 ++ l0 : List (S25))).bind fun y182 => ((filt_PushMax.f k y182 a1 a2_0 a2_1).bind fun t185 => ((filt_PushMin.f k y182 a1 a2_0 a2_1).bind fun t188 => (if (t185.length : Int) = 0 then (wigwaglaw02_FiltFalls.j0 k l0 t178 y182 t185 t188 true a2_0 a2_1) else (if (t188.length : Int) = 0 then (wigwaglaw02_FiltFalls.j0 k l0 t178 y182 t185 t188 true a2_0 a2_1) else (if 0 ≤ (wrap64 ((t185.length : Int) - 1)) then (if (wrap64 ((t185.length : Int) - 1)) < (t185.length : Int) then (if (!(((rd_T25 t185 (wrap64 ((t185.length : Int) - 1))).f0) == a2_0) || (!(((rd_T25 t185 (wrap64 ((t185.length : Int) - 1))).f1) == a2_1))) = true then (wigwaglaw02_FiltFalls.j0 k l0 t178 y182 t185 t188 true a2_0 a2_1) else (if 0 ≤ (wrap64 ((t188.length : Int) - 1)) then (if (wrap64 ((t188.length : Int) - 1)) < (t188.length : Int) then (wigwaglaw02_FiltFalls.j0 k l0 t178 y182 t185 t188 (!(((rd_T25 t188 (wrap64 ((t188.length : Int) - 1))).f0) == a2_0) || (!(((rd_T25 t188 (wrap64 ((t188.length : Int) - 1))).f1) == a2_1))) a2_0 a2_1) else (none)) else (none))) else (none)) else (none))))))) else (none))))) = some r := h
  clear h
  replace H := Option.bind_eq_some_iff.mp H
  obtain ⟨t178, A40, H⟩ := H
  replace H : (if (l0.length : Int) > 300 then (some t178) else ((some (([] : List (S25)) : List (S25))).bind fun y179 => (if y179.length + l0.length < 8796093022208 then ((some (y179 ++ l0 : List (S25))).bind fun y182 => ((filt_PushMax.f k y182 a1 a2_0 a2_1).bind fun t185 => ((filt_PushMin.f k y182 a1 a2_0 a2_1).bind fun t188 => (if (t185.length : Int) = 0 then (wigwaglaw02_FiltFalls.j0 k l0 t178 y182 t185 t188 true a2_0 a2_1) else (if (t188.length : Int) = 0 then (wigwaglaw02_FiltFalls.j0 k l0 t178 y182 t185 t188 true a2_0 a2_1) else (if 0 ≤ (wrap64 ((t185.length : Int) - 1)) then (if (wrap64 ((t185.length : Int) - 1)) < (t185.length : Int) then (if (!(((rd_T25 t185 (wrap64 ((t185.length : Int) - 1))).f0) == a2_0) || (!(((rd_T25 t185 (wrap64 ((t185.length : Int) - 1))).f1) == a2_1))) = true then (wigwaglaw02_FiltFalls.j0 k l0 t178 y182 t185 t188 true a2_0 a2_1) else (if 0 ≤ (wrap64 ((t188.length : Int) - 1)) then (if (wrap64 ((t188.length : Int) - 1)) < (t188.length : Int) then (wigwaglaw02_FiltFalls.j0 k l0 t178 y182 t185 t188 (!(((rd_T25 t188 (wrap64 ((t188.length : Int) - 1))).f0) == a2_0) || (!(((rd_T25 t188 (wrap64 ((t188.length : Int) - 1))).f1) == a2_1))) a2_0 a2_1) else (none)) else (none))) else (none)) else (none))))))) else (none)))) = some r := H
  have A4 := Aside0.mk A40
  clear A40
  by_cases c5 : (l0.length : Int) > 300
  · rw [if_pos c5] at H
    have c5b0 : decide (300 < (l0.length : Int)) = true := decide_eq_true c5
    have c5b1 : decide (300 < l0.length) = true := decide_eq_true (by omega)
    clear c5
    obtain rfl := Option.some.inj H
    go_enter Try.func5, Try.ntmps5
    go_wp2_with (first | ((with_reducible refine gate_dst (N := 5) rfl ?_); (try (refine gate_guard (by rfl) ?_; dsimp only)); refine box_event ?hg (N := 5) ?hd (cs := #[.int .u64 a2_0, .int .u64 a2_1]) (t := 25) ?hr ?_; (case hd => rfl); (case hg => rfl); (case hr => first | (go_simp; done) | (go_simp; rfl)); intro gb177 hg w6 hbox hb; have n0_ := Aside0.mk (below_step (by repeat (first | (with_reducible first | exact HB.out | apply below_alloc | apply pw_below_drewN | apply below_drew1) | exact HB.out)) hb); have n1_ := Aside0.mk (hbox); have n2_ := Aside0.mk ((by rw [hg]; exact (below_size (by repeat (first | (with_reducible first | exact HB.out | apply below_alloc | apply pw_below_drewN | apply below_drew1) | exact HB.out))) : w.heap.size ≤ gb177)); have n3_ := Aside0.mk ((by rw [hg]; exact (below_size (by repeat (first | (with_reducible first | exact HB.out | apply below_alloc | apply pw_below_drewN | apply below_drew1) | exact HB.out))) : w.heap.size ≤ gb177)); clear HB; have HB := n0_; have BK177 := n1_; have GW177 := n2_; have GE177 := n3_; clear n0_ n1_ n2_ n3_; clear hb hbox hg) | (go_at_call 8; (with_reducible refine (wigwaglaw02_awake.calls k  t178 _ A4.out).mono ?_); rintro e w7 ⟨rfl, hb⟩; have n0_ := Aside0.mk (blk_below (g := gb177) (o := .cells #[.int .u64 a2_0, .int .u64 a2_1] 25 (0, 0)) (by (with_reducible repeat (first | refine blk_drewN ?_ _ | refine blk_drew ?_ | refine blk_alloc ?_ _)); exact BK177.out) hb); have n1_ := Aside0.mk (below_step (by repeat (first | (with_reducible first | exact HB.out | apply below_alloc | apply pw_below_drewN | apply below_drew1 | refine below_set ?_ GE177.out) | exact HB.out)) hb); clear BK177; clear HB; have BK177 := n0_; have HB := n1_; clear n0_ n1_; (try clear hb); (try clear hb2); (try clear hk); (try clear hi)))
    repeat (go_quiet (first | ((with_reducible refine gate_dst (N := 5) rfl ?_); (try (refine gate_guard (by rfl) ?_; dsimp only)); refine box_event ?hg (N := 5) ?hd (cs := #[.int .u64 a2_0, .int .u64 a2_1]) (t := 25) ?hr ?_; (case hd => rfl); (case hg => rfl); (case hr => first | (go_simp; done) | (go_simp; rfl)); intro gb177 hg w6 hbox hb; have n0_ := Aside0.mk (below_step (by repeat (first | (with_reducible first | exact HB.out | apply below_alloc | apply pw_below_drewN | apply below_drew1) | exact HB.out)) hb); have n1_ := Aside0.mk (hbox); have n2_ := Aside0.mk ((by rw [hg]; exact (below_size (by repeat (first | (with_reducible first | exact HB.out | apply below_alloc | apply pw_below_drewN | apply below_drew1) | exact HB.out))) : w.heap.size ≤ gb177)); have n3_ := Aside0.mk ((by rw [hg]; exact (below_size (by repeat (first | (with_reducible first | exact HB.out | apply below_alloc | apply pw_below_drewN | apply below_drew1) | exact HB.out))) : w.heap.size ≤ gb177)); clear HB; have HB := n0_; have BK177 := n1_; have GW177 := n2_; have GE177 := n3_; clear n0_ n1_ n2_ n3_; clear hb hbox hg) | (go_at_call 8; (with_reducible refine (wigwaglaw02_awake.calls k  t178 _ A4.out).mono ?_); rintro e w7 ⟨rfl, hb⟩; have n0_ := Aside0.mk (blk_below (g := gb177) (o := .cells #[.int .u64 a2_0, .int .u64 a2_1] 25 (0, 0)) (by (with_reducible repeat (first | refine blk_drewN ?_ _ | refine blk_drew ?_ | refine blk_alloc ?_ _)); exact BK177.out) hb); have n1_ := Aside0.mk (below_step (by repeat (first | (with_reducible first | exact HB.out | apply below_alloc | apply pw_below_drewN | apply below_drew1 | refine below_set ?_ GE177.out) | exact HB.out)) hb); clear BK177; clear HB; have BK177 := n0_; have HB := n1_; clear n0_ n1_; (try clear hb); (try clear hb2); (try clear hk); (try clear hi))); try go_wp2_with (first | ((with_reducible refine gate_dst (N := 5) rfl ?_); (try (refine gate_guard (by rfl) ?_; dsimp only)); refine box_event ?hg (N := 5) ?hd (cs := #[.int .u64 a2_0, .int .u64 a2_1]) (t := 25) ?hr ?_; (case hd => rfl); (case hg => rfl); (case hr => first | (go_simp; done) | (go_simp; rfl)); intro gb177 hg w6 hbox hb; have n0_ := Aside0.mk (below_step (by repeat (first | (with_reducible first | exact HB.out | apply below_alloc | apply pw_below_drewN | apply below_drew1) | exact HB.out)) hb); have n1_ := Aside0.mk (hbox); have n2_ := Aside0.mk ((by rw [hg]; exact (below_size (by repeat (first | (with_reducible first | exact HB.out | apply below_alloc | apply pw_below_drewN | apply below_drew1) | exact HB.out))) : w.heap.size ≤ gb177)); have n3_ := Aside0.mk ((by rw [hg]; exact (below_size (by repeat (first | (with_reducible first | exact HB.out | apply below_alloc | apply pw_below_drewN | apply below_drew1) | exact HB.out))) : w.heap.size ≤ gb177)); clear HB; have HB := n0_; have BK177 := n1_; have GW177 := n2_; have GE177 := n3_; clear n0_ n1_ n2_ n3_; clear hb hbox hg) | (go_at_call 8; (with_reducible refine (wigwaglaw02_awake.calls k  t178 _ A4.out).mono ?_); rintro e w7 ⟨rfl, hb⟩; have n0_ := Aside0.mk (blk_below (g := gb177) (o := .cells #[.int .u64 a2_0, .int .u64 a2_1] 25 (0, 0)) (by (with_reducible repeat (first | refine blk_drewN ?_ _ | refine blk_drew ?_ | refine blk_alloc ?_ _)); exact BK177.out) hb); have n1_ := Aside0.mk (below_step (by repeat (first | (with_reducible first | exact HB.out | apply below_alloc | apply pw_below_drewN | apply below_drew1 | refine below_set ?_ GE177.out) | exact HB.out)) hb); clear BK177; clear HB; have BK177 := n0_; have HB := n1_; clear n0_ n1_; (try clear hb); (try clear hb2); (try clear hk); (try clear hi))))
    go_ret
    exact ⟨by first | rfl | (simp [errW_none, errW_some] <;> rfl) | (simp [*, errW_none, errW_some] <;> rfl), by repeat (first | (with_reducible first | exact HB.out | apply below_alloc | apply pw_below_drewN | apply below_drew1 | refine below_set ?_ GE177.out) | exact HB.out)⟩
  · rw [if_neg c5] at H
    have c5b0 : decide (300 < (l0.length : Int)) = false := decide_eq_false c5
    have c5b1 : decide (300 < l0.length) = false := decide_eq_false (by omega)
    clear c5
    obtain ⟨y179, hy179⟩ : ∃ y_ : List (S25), y_ = (([] : List (S25))) := ⟨_, rfl⟩
    replace H : (if y179.length + l0.length < 8796093022208 then ((some (y179 ++ l0 : List (S25))).bind fun y182 => ((filt_PushMax.f k y182 a1 a2_0 a2_1).bind fun t185 => ((filt_PushMin.f k y182 a1 a2_0 a2_1).bind fun t188 => (if (t185.length : Int) = 0 then (wigwaglaw02_FiltFalls.j0 k l0 t178 y182 t185 t188 true a2_0 a2_1) else (if (t188.length : Int) = 0 then (wigwaglaw02_FiltFalls.j0 k l0 t178 y182 t185 t188 true a2_0 a2_1) else (if 0 ≤ (wrap64 ((t185.length : Int) - 1)) then (if (wrap64 ((t185.length : Int) - 1)) < (t185.length : Int) then (if (!(((rd_T25 t185 (wrap64 ((t185.length : Int) - 1))).f0) == a2_0) || (!(((rd_T25 t185 (wrap64 ((t185.length : Int) - 1))).f1) == a2_1))) = true then (wigwaglaw02_FiltFalls.j0 k l0 t178 y182 t185 t188 true a2_0 a2_1) else (if 0 ≤ (wrap64 ((t188.length : Int) - 1)) then (if (wrap64 ((t188.length : Int) - 1)) < (t188.length : Int) then (wigwaglaw02_FiltFalls.j0 k l0 t178 y182 t185 t188 (!(((rd_T25 t188 (wrap64 ((t188.length : Int) - 1))).f0) == a2_0) || (!(((rd_T25 t188 (wrap64 ((t188.length : Int) - 1))).f1) == a2_1))) a2_0 a2_1) else (none)) else (none))) else (none)) else (none))))))) else (none)) = some r := by first | (rw [hy179]; with_reducible exact H) | (have H2_ := (Option.bind_some _ _).symm.trans H; rw [hy179]; with_reducible exact H2_) | (have H2_ := (Option.bind_some _ _).symm.trans H; with_reducible exact H2_) | with_reducible exact H | (rw [hy179]; exact H) | exact H
    have Ny179 := Aside0.mk hy179
    clear hy179
    by_cases c8 : y179.length + l0.length < 8796093022208
    · rw [if_pos c8] at H
      have LMc8 := Aside0.mk c8
      clear c8
      obtain ⟨y182, hy182⟩ : ∃ y_ : List (S25), y_ = (y179 ++ l0) := ⟨_, rfl⟩
      replace H : ((filt_PushMax.f k y182 a1 a2_0 a2_1).bind fun t185 => ((filt_PushMin.f k y182 a1 a2_0 a2_1).bind fun t188 => (if (t185.length : Int) = 0 then (wigwaglaw02_FiltFalls.j0 k l0 t178 y182 t185 t188 true a2_0 a2_1) else (if (t188.length : Int) = 0 then (wigwaglaw02_FiltFalls.j0 k l0 t178 y182 t185 t188 true a2_0 a2_1) else (if 0 ≤ (wrap64 ((t185.length : Int) - 1)) then (if (wrap64 ((t185.length : Int) - 1)) < (t185.length : Int) then (if (!(((rd_T25 t185 (wrap64 ((t185.length : Int) - 1))).f0) == a2_0) || (!(((rd_T25 t185 (wrap64 ((t185.length : Int) - 1))).f1) == a2_1))) = true then (wigwaglaw02_FiltFalls.j0 k l0 t178 y182 t185 t188 true a2_0 a2_1) else (if 0 ≤ (wrap64 ((t188.length : Int) - 1)) then (if (wrap64 ((t188.length : Int) - 1)) < (t188.length : Int) then (wigwaglaw02_FiltFalls.j0 k l0 t178 y182 t185 t188 (!(((rd_T25 t188 (wrap64 ((t188.length : Int) - 1))).f0) == a2_0) || (!(((rd_T25 t188 (wrap64 ((t188.length : Int) - 1))).f1) == a2_1))) a2_0 a2_1) else (none)) else (none))) else (none)) else (none)))))) = some r := by first | (rw [hy182]; with_reducible exact H) | (have H2_ := (Option.bind_some _ _).symm.trans H; rw [hy182]; with_reducible exact H2_) | (have H2_ := (Option.bind_some _ _).symm.trans H; with_reducible exact H2_) | with_reducible exact H | (rw [hy182]; exact H) | exact H
      have Ny182 := Aside0.mk hy182
      clear hy182
      replace H := Option.bind_eq_some_iff.mp H
      obtain ⟨t185, A90, H⟩ := H
      replace H : ((filt_PushMin.f k y182 a1 a2_0 a2_1).bind fun t188 => (if (t185.length : Int) = 0 then (wigwaglaw02_FiltFalls.j0 k l0 t178 y182 t185 t188 true a2_0 a2_1) else (if (t188.length : Int) = 0 then (wigwaglaw02_FiltFalls.j0 k l0 t178 y182 t185 t188 true a2_0 a2_1) else (if 0 ≤ (wrap64 ((t185.length : Int) - 1)) then (if (wrap64 ((t185.length : Int) - 1)) < (t185.length : Int) then (if (!(((rd_T25 t185 (wrap64 ((t185.length : Int) - 1))).f0) == a2_0) || (!(((rd_T25 t185 (wrap64 ((t185.length : Int) - 1))).f1) == a2_1))) = true then (wigwaglaw02_FiltFalls.j0 k l0 t178 y182 t185 t188 true a2_0 a2_1) else (if 0 ≤ (wrap64 ((t188.length : Int) - 1)) then (if (wrap64 ((t188.length : Int) - 1)) < (t188.length : Int) then (wigwaglaw02_FiltFalls.j0 k l0 t178 y182 t185 t188 (!(((rd_T25 t188 (wrap64 ((t188.length : Int) - 1))).f0) == a2_0) || (!(((rd_T25 t188 (wrap64 ((t188.length : Int) - 1))).f1) == a2_1))) a2_0 a2_1) else (none)) else (none))) else (none)) else (none))))) = some r := H
      have A9 := Aside0.mk A90
      clear A90
      replace H := Option.bind_eq_some_iff.mp H
      obtain ⟨t188, A100, H⟩ := H
      replace H : (if (t185.length : Int) = 0 then (wigwaglaw02_FiltFalls.j0 k l0 t178 y182 t185 t188 true a2_0 a2_1) else (if (t188.length : Int) = 0 then (wigwaglaw02_FiltFalls.j0 k l0 t178 y182 t185 t188 true a2_0 a2_1) else (if 0 ≤ (wrap64 ((t185.length : Int) - 1)) then (if (wrap64 ((t185.length : Int) - 1)) < (t185.length : Int) then (if (!(((rd_T25 t185 (wrap64 ((t185.length : Int) - 1))).f0) == a2_0) || (!(((rd_T25 t185 (wrap64 ((t185.length : Int) - 1))).f1) == a2_1))) = true then (wigwaglaw02_FiltFalls.j0 k l0 t178 y182 t185 t188 true a2_0 a2_1) else (if 0 ≤ (wrap64 ((t188.length : Int) - 1)) then (if (wrap64 ((t188.length : Int) - 1)) < (t188.length : Int) then (wigwaglaw02_FiltFalls.j0 k l0 t178 y182 t185 t188 (!(((rd_T25 t188 (wrap64 ((t188.length : Int) - 1))).f0) == a2_0) || (!(((rd_T25 t188 (wrap64 ((t188.length : Int) - 1))).f1) == a2_1))) a2_0 a2_1) else (none)) else (none))) else (none)) else (none)))) = some r := H
      have A10 := Aside0.mk A100
      clear A100
      have HC11 := Aside0.mk H
      clear H
      go_enter Try.func5, Try.ntmps5
      go_upto_region 7 with (first | ((with_reducible refine gate_dst (N := 5) rfl ?_); (try (refine gate_guard (by rfl) ?_; dsimp only)); refine box_event ?hg (N := 5) ?hd (cs := #[.int .u64 a2_0, .int .u64 a2_1]) (t := 25) ?hr ?_; (case hd => rfl); (case hg => rfl); (case hr => first | (go_simp; done) | (go_simp; rfl)); intro gb177 hg w12 hbox hb; have n0_ := Aside0.mk (below_step (by repeat (first | (with_reducible first | exact HB.out | apply below_alloc | apply pw_below_drewN | apply below_drew1) | exact HB.out)) hb); have n1_ := Aside0.mk (hbox); have n2_ := Aside0.mk ((by rw [hg]; exact (below_size (by repeat (first | (with_reducible first | exact HB.out | apply below_alloc | apply pw_below_drewN | apply below_drew1) | exact HB.out))) : w.heap.size ≤ gb177)); have n3_ := Aside0.mk ((by rw [hg]; exact (below_size (by repeat (first | (with_reducible first | exact HB.out | apply below_alloc | apply pw_below_drewN | apply below_drew1) | exact HB.out))) : w.heap.size ≤ gb177)); clear HB; have HB := n0_; have BK177 := n1_; have GW177 := n2_; have GE177 := n3_; clear n0_ n1_ n2_ n3_; clear hb hbox hg) | (go_at_call 8; (with_reducible refine (wigwaglaw02_awake.calls k  t178 _ A4.out).mono ?_); rintro e w13 ⟨rfl, hb⟩; have n0_ := Aside0.mk (blk_below (g := gb177) (o := .cells #[.int .u64 a2_0, .int .u64 a2_1] 25 (0, 0)) (by (with_reducible repeat (first | refine blk_drewN ?_ _ | refine blk_drew ?_ | refine blk_alloc ?_ _)); exact BK177.out) hb); have n1_ := Aside0.mk (below_step (by repeat (first | (with_reducible first | exact HB.out | apply below_alloc | apply pw_below_drewN | apply below_drew1 | refine below_set ?_ GE177.out) | exact HB.out)) hb); clear BK177; clear HB; have BK177 := n0_; have HB := n1_; clear n0_ n1_; (try clear hb); (try clear hb2); (try clear hk); (try clear hi)) | ((with_reducible refine gate_dst (N := 19) rfl ?_); (try (refine gate_guard (by rfl) ?_; dsimp only)); refine Kd.R_lit k25 _ 25 ?hg (N := 19) ?hd (xs := ([] : List (S25))) (inner := []) (ok := fun _ => True) (okp := fun _ => True) ?hr ?hp (fun _ hk => hk) trivial (Below.refl _ _) (Nat.le_refl _) (by simp) ?_; (case hd => rfl); (case hg => rfl); (case hr => first | (go_simp; done) | (go_simp; rfl)); (case hp => exact (Reps.none _ _)); intro v180 w14 ho15 hb hg_ hnew_; clear hg_ hnew_; (first | rw [← Ny179.out] at ho15 | (simp only [Int.reduceToNat] at ho15; rw [← Ny179.out] at ho15)); have n0_ := Aside0.mk (Kd.R_lower (Kd.R_newB ho15 (g := gb177) (o := .cells #[.int .u64 a2_0, .int .u64 a2_1] 25 (0, 0)) (by (with_reducible repeat (first | refine blk_drewN ?_ _ | refine blk_drew ?_ | refine blk_alloc ?_ _)); exact BK177.out)) (below_size (by repeat (first | (with_reducible first | exact HB.out | apply below_alloc | apply pw_below_drewN | apply below_drew1 | refine below_set ?_ GE177.out) | exact HB.out)))); have n1_ := Aside0.mk (blk_below (g := gb177) (o := .cells #[.int .u64 a2_0, .int .u64 a2_1] 25 (0, 0)) (by (with_reducible repeat (first | refine blk_drewN ?_ _ | refine blk_drew ?_ | refine blk_alloc ?_ _)); exact BK177.out) hb); have n2_ := Aside0.mk (below_step (by repeat (first | (with_reducible first | exact HB.out | apply below_alloc | apply pw_below_drewN | apply below_drew1 | refine below_set ?_ GE177.out) | exact HB.out)) hb); clear BK177; clear HB; have HO181 := n0_; have BK177 := n1_; have HB := n2_; clear n0_ n1_ n2_; clear hb ho15) | ((with_reducible refine gate_builtin (b := .append) (xs := #[.tmp 19, .tmp 20]) rfl ?_); (try (refine gate_guard (by rfl) ?_; dsimp only)); at_builtin; refine Kd.R_append_rows k25 (w0 := w) w.heap.size rfl (.tmp 19) (.tmp 20) 22 25 (.agg #[(.int .u64 0), (.int .u64 0)]) 16 rfl Try.underlying22 info25 rfl (by decide) (by omega) v180 y179 l0 _ _ _ (fun k_ => k_ ≠ gb177) (fun _ => False) rfl rfl ?aO ?aR (fun _ _ h => h) (fun _ h => h.elim) ?aF ?aB ?aS ?aL ?_; (case aR => repeat (first | exact (Kd.C_below HR0.out HB.out) | (with_reducible refine Kd.C_alloc ?_ _) | (with_reducible refine Kd.C_drewN ?_ _) | (with_reducible refine Kd.C_drew ?_))); (case aB => exact (by repeat (first | (with_reducible first | exact HB.out | apply below_alloc | apply pw_below_drewN | apply below_drew1 | refine below_set ?_ GE177.out) | exact HB.out))); (case aF => exact (fun k_ hk => Kd.freshB (g := gb177) (o := .cells #[.int .u64 a2_0, .int .u64 a2_1] 25 (0, 0)) (by (with_reducible repeat (first | refine blk_drewN ?_ _ | refine blk_drew ?_ | refine blk_alloc ?_ _)); exact BK177.out) k_ hk)); (case aO => exact (by (with_reducible repeat (first | apply Kd.R_alloc | apply Kd.R_drewN | apply Kd.R_drew)); exact Kd.R_mono HO181.out (fun _ hk => hk.2))); (case aS => exact (below_size (by repeat (first | (with_reducible first | exact HB.out | apply below_alloc | apply pw_below_drewN | apply below_drew1 | refine below_set ?_ GE177.out) | exact HB.out)))); (case aL => have := LMc8.out; omega); intro v183 w16 ho hb hg hat; rw [← Ny182.out] at ho; have n0_ := Aside0.mk (blk_grown (g := gb177) (o := .cells #[.int .u64 a2_0, .int .u64 a2_1] 25 (0, 0)) (by (with_reducible repeat (first | refine blk_drewN ?_ _ | refine blk_drew ?_ | refine blk_alloc ?_ _)); exact BK177.out) hg (Kd.R_away HO181.out (fun _ hk => hk.2))); have n1_ := Aside0.mk (hb); have n2_ := Aside0.mk (ho); clear BK177; clear HB; clear HO181; have BK177 := n0_; have HB := n1_; have HO184 := n2_; clear n0_ n1_ n2_; clear ho hb hg hat; have hcz17_0 : w16.cell? ⟨gb177, 0, none⟩ = some (.int .u64 a2_0) := (blk_cell BK177.out 0).trans rfl; have hcz17_1 : w16.cell? ⟨gb177, 1, none⟩ = some (.int .u64 a2_1) := (blk_cell BK177.out 1).trans rfl; have hfz17_0 := blk_frozen BK177.out 0; have hfz17_1 := blk_frozen BK177.out 1; obtain ⟨Ao18, co18, eo18⟩ := Kd.R_slice HO184.out; subst eo18) | (go_at_call 10; (with_reducible refine (filt_PushMax.calls k _ _ y182 a1 a2_0 a2_1 t185 _ ?side1 ?side2 A9.out).mono ?_); (case side1 => repeat (first | exact (Kd.R_reads' HO184.out).2.2 | (with_reducible refine Kd.C_alloc ?_ _) | (with_reducible refine Kd.C_drewN ?_ _) | (with_reducible refine Kd.C_drew ?_))); (case side2 => exact (Kd.R_reads' HO184.out).2.1); rintro e w19 ⟨v186, rfl, ho0, hb⟩; have n0_ := Aside0.mk (Kd.R_elder' (by (with_reducible repeat (first | apply Kd.R_alloc | apply Kd.R_drewN | apply Kd.R_drew)); exact HO184.out) (Kd.R_base ho0) hb); have n1_ := Aside0.mk (Kd.R_lower (Kd.R_newB (Kd.R_new' ho0 (Kd.R_lt (by (with_reducible repeat (first | apply Kd.R_alloc | apply Kd.R_drewN | apply Kd.R_drew)); exact HO184.out))) (g := gb177) (o := .cells #[.int .u64 a2_0, .int .u64 a2_1] 25 (0, 0)) (by (with_reducible repeat (first | refine blk_drewN ?_ _ | refine blk_drew ?_ | refine blk_alloc ?_ _)); exact BK177.out)) (below_size (by repeat (first | (with_reducible first | exact HB.out | apply below_alloc | apply pw_below_drewN | apply below_drew1 | refine below_set ?_ GE177.out) | exact HB.out)))); have n2_ := Aside0.mk (blk_below (g := gb177) (o := .cells #[.int .u64 a2_0, .int .u64 a2_1] 25 (0, 0)) (by (with_reducible repeat (first | refine blk_drewN ?_ _ | refine blk_drew ?_ | refine blk_alloc ?_ _)); exact BK177.out) hb); have n3_ := Aside0.mk (below_step (by repeat (first | (with_reducible first | exact HB.out | apply below_alloc | apply pw_below_drewN | apply below_drew1 | refine below_set ?_ GE177.out) | exact HB.out)) hb); clear HO184; clear BK177; clear HB; have HO184 := n0_; have HO187 := n1_; have BK177 := n2_; have HB := n3_; clear n0_ n1_ n2_ n3_; (try clear hb); (try clear hb2); (try clear hk); (try clear hi); (try clear ho0); have hcz20_0 : w19.cell? ⟨gb177, 0, none⟩ = some (.int .u64 a2_0) := (blk_cell BK177.out 0).trans rfl; have hcz20_1 : w19.cell? ⟨gb177, 1, none⟩ = some (.int .u64 a2_1) := (blk_cell BK177.out 1).trans rfl; have hfz20_0 := blk_frozen BK177.out 0; have hfz20_1 := blk_frozen BK177.out 1) | (go_at_call 12; (with_reducible refine (filt_PushMin.calls k _ _ y182 a1 a2_0 a2_1 t188 _ ?side1 ?side2 A10.out).mono ?_); (case side1 => repeat (first | exact (Kd.R_reads' HO184.out).2.2 | (with_reducible refine Kd.C_alloc ?_ _) | (with_reducible refine Kd.C_drewN ?_ _) | (with_reducible refine Kd.C_drew ?_))); (case side2 => exact (Kd.R_reads' HO184.out).2.1); rintro e w21 ⟨v189, rfl, ho0, hb⟩; have n0_ := Aside0.mk (Kd.R_elder' (by (with_reducible repeat (first | apply Kd.R_alloc | apply Kd.R_drewN | apply Kd.R_drew)); exact HO184.out) (Kd.R_base ho0) hb); have n1_ := Aside0.mk (Kd.R_elder' (by (with_reducible repeat (first | apply Kd.R_alloc | apply Kd.R_drewN | apply Kd.R_drew)); exact HO187.out) (Kd.R_base ho0) hb); have n2_ := Aside0.mk (Kd.R_lower (Kd.R_newB (Kd.R_new' (Kd.R_new' ho0 (Kd.R_lt (by (with_reducible repeat (first | apply Kd.R_alloc | apply Kd.R_drewN | apply Kd.R_drew)); exact HO184.out))) (Kd.R_lt (by (with_reducible repeat (first | apply Kd.R_alloc | apply Kd.R_drewN | apply Kd.R_drew)); exact HO187.out))) (g := gb177) (o := .cells #[.int .u64 a2_0, .int .u64 a2_1] 25 (0, 0)) (by (with_reducible repeat (first | refine blk_drewN ?_ _ | refine blk_drew ?_ | refine blk_alloc ?_ _)); exact BK177.out)) (below_size (by repeat (first | (with_reducible first | exact HB.out | apply below_alloc | apply pw_below_drewN | apply below_drew1 | refine below_set ?_ GE177.out) | exact HB.out)))); have n3_ := Aside0.mk (blk_below (g := gb177) (o := .cells #[.int .u64 a2_0, .int .u64 a2_1] 25 (0, 0)) (by (with_reducible repeat (first | refine blk_drewN ?_ _ | refine blk_drew ?_ | refine blk_alloc ?_ _)); exact BK177.out) hb); have n4_ := Aside0.mk (below_step (by repeat (first | (with_reducible first | exact HB.out | apply below_alloc | apply pw_below_drewN | apply below_drew1 | refine below_set ?_ GE177.out) | exact HB.out)) hb); clear HO184; clear HO187; clear BK177; clear HB; have HO184 := n0_; have HO187 := n1_; have HO190 := n2_; have BK177 := n3_; have HB := n4_; clear n0_ n1_ n2_ n3_ n4_; (try clear hb); (try clear hb2); (try clear hk); (try clear hi); (try clear ho0)))
      repeat (go_quiet (first | ((with_reducible refine gate_dst (N := 5) rfl ?_); (try (refine gate_guard (by rfl) ?_; dsimp only)); refine box_event ?hg (N := 5) ?hd (cs := #[.int .u64 a2_0, .int .u64 a2_1]) (t := 25) ?hr ?_; (case hd => rfl); (case hg => rfl); (case hr => first | (go_simp; done) | (go_simp; rfl)); intro gb177 hg w12 hbox hb; have n0_ := Aside0.mk (below_step (by repeat (first | (with_reducible first | exact HB.out | apply below_alloc | apply pw_below_drewN | apply below_drew1) | exact HB.out)) hb); have n1_ := Aside0.mk (hbox); have n2_ := Aside0.mk ((by rw [hg]; exact (below_size (by repeat (first | (with_reducible first | exact HB.out | apply below_alloc | apply pw_below_drewN | apply below_drew1) | exact HB.out))) : w.heap.size ≤ gb177)); have n3_ := Aside0.mk ((by rw [hg]; exact (below_size (by repeat (first | (with_reducible first | exact HB.out | apply below_alloc | apply pw_below_drewN | apply below_drew1) | exact HB.out))) : w.heap.size ≤ gb177)); clear HB; have HB := n0_; have BK177 := n1_; have GW177 := n2_; have GE177 := n3_; clear n0_ n1_ n2_ n3_; clear hb hbox hg) | (go_at_call 8; (with_reducible refine (wigwaglaw02_awake.calls k  t178 _ A4.out).mono ?_); rintro e w13 ⟨rfl, hb⟩; have n0_ := Aside0.mk (blk_below (g := gb177) (o := .cells #[.int .u64 a2_0, .int .u64 a2_1] 25 (0, 0)) (by (with_reducible repeat (first | refine blk_drewN ?_ _ | refine blk_drew ?_ | refine blk_alloc ?_ _)); exact BK177.out) hb); have n1_ := Aside0.mk (below_step (by repeat (first | (with_reducible first | exact HB.out | apply below_alloc | apply pw_below_drewN | apply below_drew1 | refine below_set ?_ GE177.out) | exact HB.out)) hb); clear BK177; clear HB; have BK177 := n0_; have HB := n1_; clear n0_ n1_; (try clear hb); (try clear hb2); (try clear hk); (try clear hi)) | ((with_reducible refine gate_dst (N := 19) rfl ?_); (try (refine gate_guard (by rfl) ?_; dsimp only)); refine Kd.R_lit k25 _ 25 ?hg (N := 19) ?hd (xs := ([] : List (S25))) (inner := []) (ok := fun _ => True) (okp := fun _ => True) ?hr ?hp (fun _ hk => hk) trivial (Below.refl _ _) (Nat.le_refl _) (by simp) ?_; (case hd => rfl); (case hg => rfl); (case hr => first | (go_simp; done) | (go_simp; rfl)); (case hp => exact (Reps.none _ _)); intro v180 w14 ho15 hb hg_ hnew_; clear hg_ hnew_; (first | rw [← Ny179.out] at ho15 | (simp only [Int.reduceToNat] at ho15; rw [← Ny179.out] at ho15)); have n0_ := Aside0.mk (Kd.R_lower (Kd.R_newB ho15 (g := gb177) (o := .cells #[.int .u64 a2_0, .int .u64 a2_1] 25 (0, 0)) (by (with_reducible repeat (first | refine blk_drewN ?_ _ | refine blk_drew ?_ | refine blk_alloc ?_ _)); exact BK177.out)) (below_size (by repeat (first | (with_reducible first | exact HB.out | apply below_alloc | apply pw_below_drewN | apply below_drew1 | refine below_set ?_ GE177.out) | exact HB.out)))); have n1_ := Aside0.mk (blk_below (g := gb177) (o := .cells #[.int .u64 a2_0, .int .u64 a2_1] 25 (0, 0)) (by (with_reducible repeat (first | refine blk_drewN ?_ _ | refine blk_drew ?_ | refine blk_alloc ?_ _)); exact BK177.out) hb); have n2_ := Aside0.mk (below_step (by repeat (first | (with_reducible first | exact HB.out | apply below_alloc | apply pw_below_drewN | apply below_drew1 | refine below_set ?_ GE177.out) | exact HB.out)) hb); clear BK177; clear HB; have HO181 := n0_; have BK177 := n1_; have HB := n2_; clear n0_ n1_ n2_; clear hb ho15) | ((with_reducible refine gate_builtin (b := .append) (xs := #[.tmp 19, .tmp 20]) rfl ?_); (try (refine gate_guard (by rfl) ?_; dsimp only)); at_builtin; refine Kd.R_append_rows k25 (w0 := w) w.heap.size rfl (.tmp 19) (.tmp 20) 22 25 (.agg #[(.int .u64 0), (.int .u64 0)]) 16 rfl Try.underlying22 info25 rfl (by decide) (by omega) v180 y179 l0 _ _ _ (fun k_ => k_ ≠ gb177) (fun _ => False) rfl rfl ?aO ?aR (fun _ _ h => h) (fun _ h => h.elim) ?aF ?aB ?aS ?aL ?_; (case aR => repeat (first | exact (Kd.C_below HR0.out HB.out) | (with_reducible refine Kd.C_alloc ?_ _) | (with_reducible refine Kd.C_drewN ?_ _) | (with_reducible refine Kd.C_drew ?_))); (case aB => exact (by repeat (first | (with_reducible first | exact HB.out | apply below_alloc | apply pw_below_drewN | apply below_drew1 | refine below_set ?_ GE177.out) | exact HB.out))); (case aF => exact (fun k_ hk => Kd.freshB (g := gb177) (o := .cells #[.int .u64 a2_0, .int .u64 a2_1] 25 (0, 0)) (by (with_reducible repeat (first | refine blk_drewN ?_ _ | refine blk_drew ?_ | refine blk_alloc ?_ _)); exact BK177.out) k_ hk)); (case aO => exact (by (with_reducible repeat (first | apply Kd.R_alloc | apply Kd.R_drewN | apply Kd.R_drew)); exact Kd.R_mono HO181.out (fun _ hk => hk.2))); (case aS => exact (below_size (by repeat (first | (with_reducible first | exact HB.out | apply below_alloc | apply pw_below_drewN | apply below_drew1 | refine below_set ?_ GE177.out) | exact HB.out)))); (case aL => have := LMc8.out; omega); intro v183 w16 ho hb hg hat; rw [← Ny182.out] at ho; have n0_ := Aside0.mk (blk_grown (g := gb177) (o := .cells #[.int .u64 a2_0, .int .u64 a2_1] 25 (0, 0)) (by (with_reducible repeat (first | refine blk_drewN ?_ _ | refine blk_drew ?_ | refine blk_alloc ?_ _)); exact BK177.out) hg (Kd.R_away HO181.out (fun _ hk => hk.2))); have n1_ := Aside0.mk (hb); have n2_ := Aside0.mk (ho); clear BK177; clear HB; clear HO181; have BK177 := n0_; have HB := n1_; have HO184 := n2_; clear n0_ n1_ n2_; clear ho hb hg hat; have hcz17_0 : w16.cell? ⟨gb177, 0, none⟩ = some (.int .u64 a2_0) := (blk_cell BK177.out 0).trans rfl; have hcz17_1 : w16.cell? ⟨gb177, 1, none⟩ = some (.int .u64 a2_1) := (blk_cell BK177.out 1).trans rfl; have hfz17_0 := blk_frozen BK177.out 0; have hfz17_1 := blk_frozen BK177.out 1; obtain ⟨Ao18, co18, eo18⟩ := Kd.R_slice HO184.out; subst eo18) | (go_at_call 10; (with_reducible refine (filt_PushMax.calls k _ _ y182 a1 a2_0 a2_1 t185 _ ?side1 ?side2 A9.out).mono ?_); (case side1 => repeat (first | exact (Kd.R_reads' HO184.out).2.2 | (with_reducible refine Kd.C_alloc ?_ _) | (with_reducible refine Kd.C_drewN ?_ _) | (with_reducible refine Kd.C_drew ?_))); (case side2 => exact (Kd.R_reads' HO184.out).2.1); rintro e w19 ⟨v186, rfl, ho0, hb⟩; have n0_ := Aside0.mk (Kd.R_elder' (by (with_reducible repeat (first | apply Kd.R_alloc | apply Kd.R_drewN | apply Kd.R_drew)); exact HO184.out) (Kd.R_base ho0) hb); have n1_ := Aside0.mk (Kd.R_lower (Kd.R_newB (Kd.R_new' ho0 (Kd.R_lt (by (with_reducible repeat (first | apply Kd.R_alloc | apply Kd.R_drewN | apply Kd.R_drew)); exact HO184.out))) (g := gb177) (o := .cells #[.int .u64 a2_0, .int .u64 a2_1] 25 (0, 0)) (by (with_reducible repeat (first | refine blk_drewN ?_ _ | refine blk_drew ?_ | refine blk_alloc ?_ _)); exact BK177.out)) (below_size (by repeat (first | (with_reducible first | exact HB.out | apply below_alloc | apply pw_below_drewN | apply below_drew1 | refine below_set ?_ GE177.out) | exact HB.out)))); have n2_ := Aside0.mk (blk_below (g := gb177) (o := .cells #[.int .u64 a2_0, .int .u64 a2_1] 25 (0, 0)) (by (with_reducible repeat (first | refine blk_drewN ?_ _ | refine blk_drew ?_ | refine blk_alloc ?_ _)); exact BK177.out) hb); have n3_ := Aside0.mk (below_step (by repeat (first | (with_reducible first | exact HB.out | apply below_alloc | apply pw_below_drewN | apply below_drew1 | refine below_set ?_ GE177.out) | exact HB.out)) hb); clear HO184; clear BK177; clear HB; have HO184 := n0_; have HO187 := n1_; have BK177 := n2_; have HB := n3_; clear n0_ n1_ n2_ n3_; (try clear hb); (try clear hb2); (try clear hk); (try clear hi); (try clear ho0); have hcz20_0 : w19.cell? ⟨gb177, 0, none⟩ = some (.int .u64 a2_0) := (blk_cell BK177.out 0).trans rfl; have hcz20_1 : w19.cell? ⟨gb177, 1, none⟩ = some (.int .u64 a2_1) := (blk_cell BK177.out 1).trans rfl; have hfz20_0 := blk_frozen BK177.out 0; have hfz20_1 := blk_frozen BK177.out 1) | (go_at_call 12; (with_reducible refine (filt_PushMin.calls k _ _ y182 a1 a2_0 a2_1 t188 _ ?side1 ?side2 A10.out).mono ?_); (case side1 => repeat (first | exact (Kd.R_reads' HO184.out).2.2 | (with_reducible refine Kd.C_alloc ?_ _) | (with_reducible refine Kd.C_drewN ?_ _) | (with_reducible refine Kd.C_drew ?_))); (case side2 => exact (Kd.R_reads' HO184.out).2.1); rintro e w21 ⟨v189, rfl, ho0, hb⟩; have n0_ := Aside0.mk (Kd.R_elder' (by (with_reducible repeat (first | apply Kd.R_alloc | apply Kd.R_drewN | apply Kd.R_drew)); exact HO184.out) (Kd.R_base ho0) hb); have n1_ := Aside0.mk (Kd.R_elder' (by (with_reducible repeat (first | apply Kd.R_alloc | apply Kd.R_drewN | apply Kd.R_drew)); exact HO187.out) (Kd.R_base ho0) hb); have n2_ := Aside0.mk (Kd.R_lower (Kd.R_newB (Kd.R_new' (Kd.R_new' ho0 (Kd.R_lt (by (with_reducible repeat (first | apply Kd.R_alloc | apply Kd.R_drewN | apply Kd.R_drew)); exact HO184.out))) (Kd.R_lt (by (with_reducible repeat (first | apply Kd.R_alloc | apply Kd.R_drewN | apply Kd.R_drew)); exact HO187.out))) (g := gb177) (o := .cells #[.int .u64 a2_0, .int .u64 a2_1] 25 (0, 0)) (by (with_reducible repeat (first | refine blk_drewN ?_ _ | refine blk_drew ?_ | refine blk_alloc ?_ _)); exact BK177.out)) (below_size (by repeat (first | (with_reducible first | exact HB.out | apply below_alloc | apply pw_below_drewN | apply below_drew1 | refine below_set ?_ GE177.out) | exact HB.out)))); have n3_ := Aside0.mk (blk_below (g := gb177) (o := .cells #[.int .u64 a2_0, .int .u64 a2_1] 25 (0, 0)) (by (with_reducible repeat (first | refine blk_drewN ?_ _ | refine blk_drew ?_ | refine blk_alloc ?_ _)); exact BK177.out) hb); have n4_ := Aside0.mk (below_step (by repeat (first | (with_reducible first | exact HB.out | apply below_alloc | apply pw_below_drewN | apply below_drew1 | refine below_set ?_ GE177.out) | exact HB.out)) hb); clear HO184; clear HO187; clear BK177; clear HB; have HO184 := n0_; have HO187 := n1_; have HO190 := n2_; have BK177 := n3_; have HB := n4_; clear n0_ n1_ n2_ n3_ n4_; (try clear hb); (try clear hb2); (try clear hk); (try clear hi); (try clear ho0))); go_upto_region 7 with (first | ((with_reducible refine gate_dst (N := 5) rfl ?_); (try (refine gate_guard (by rfl) ?_; dsimp only)); refine box_event ?hg (N := 5) ?hd (cs := #[.int .u64 a2_0, .int .u64 a2_1]) (t := 25) ?hr ?_; (case hd => rfl); (case hg => rfl); (case hr => first | (go_simp; done) | (go_simp; rfl)); intro gb177 hg w12 hbox hb; have n0_ := Aside0.mk (below_step (by repeat (first | (with_reducible first | exact HB.out | apply below_alloc | apply pw_below_drewN | apply below_drew1) | exact HB.out)) hb); have n1_ := Aside0.mk (hbox); have n2_ := Aside0.mk ((by rw [hg]; exact (below_size (by repeat (first | (with_reducible first | exact HB.out | apply below_alloc | apply pw_below_drewN | apply below_drew1) | exact HB.out))) : w.heap.size ≤ gb177)); have n3_ := Aside0.mk ((by rw [hg]; exact (below_size (by repeat (first | (with_reducible first | exact HB.out | apply below_alloc | apply pw_below_drewN | apply below_drew1) | exact HB.out))) : w.heap.size ≤ gb177)); clear HB; have HB := n0_; have BK177 := n1_; have GW177 := n2_; have GE177 := n3_; clear n0_ n1_ n2_ n3_; clear hb hbox hg) | (go_at_call 8; (with_reducible refine (wigwaglaw02_awake.calls k  t178 _ A4.out).mono ?_); rintro e w13 ⟨rfl, hb⟩; have n0_ := Aside0.mk (blk_below (g := gb177) (o := .cells #[.int .u64 a2_0, .int .u64 a2_1] 25 (0, 0)) (by (with_reducible repeat (first | refine blk_drewN ?_ _ | refine blk_drew ?_ | refine blk_alloc ?_ _)); exact BK177.out) hb); have n1_ := Aside0.mk (below_step (by repeat (first | (with_reducible first | exact HB.out | apply below_alloc | apply pw_below_drewN | apply below_drew1 | refine below_set ?_ GE177.out) | exact HB.out)) hb); clear BK177; clear HB; have BK177 := n0_; have HB := n1_; clear n0_ n1_; (try clear hb); (try clear hb2); (try clear hk); (try clear hi)) | ((with_reducible refine gate_dst (N := 19) rfl ?_); (try (refine gate_guard (by rfl) ?_; dsimp only)); refine Kd.R_lit k25 _ 25 ?hg (N := 19) ?hd (xs := ([] : List (S25))) (inner := []) (ok := fun _ => True) (okp := fun _ => True) ?hr ?hp (fun _ hk => hk) trivial (Below.refl _ _) (Nat.le_refl _) (by simp) ?_; (case hd => rfl); (case hg => rfl); (case hr => first | (go_simp; done) | (go_simp; rfl)); (case hp => exact (Reps.none _ _)); intro v180 w14 ho15 hb hg_ hnew_; clear hg_ hnew_; (first | rw [← Ny179.out] at ho15 | (simp only [Int.reduceToNat] at ho15; rw [← Ny179.out] at ho15)); have n0_ := Aside0.mk (Kd.R_lower (Kd.R_newB ho15 (g := gb177) (o := .cells #[.int .u64 a2_0, .int .u64 a2_1] 25 (0, 0)) (by (with_reducible repeat (first | refine blk_drewN ?_ _ | refine blk_drew ?_ | refine blk_alloc ?_ _)); exact BK177.out)) (below_size (by repeat (first | (with_reducible first | exact HB.out | apply below_alloc | apply pw_below_drewN | apply below_drew1 | refine below_set ?_ GE177.out) | exact HB.out)))); have n1_ := Aside0.mk (blk_below (g := gb177) (o := .cells #[.int .u64 a2_0, .int .u64 a2_1] 25 (0, 0)) (by (with_reducible repeat (first | refine blk_drewN ?_ _ | refine blk_drew ?_ | refine blk_alloc ?_ _)); exact BK177.out) hb); have n2_ := Aside0.mk (below_step (by repeat (first | (with_reducible first | exact HB.out | apply below_alloc | apply pw_below_drewN | apply below_drew1 | refine below_set ?_ GE177.out) | exact HB.out)) hb); clear BK177; clear HB; have HO181 := n0_; have BK177 := n1_; have HB := n2_; clear n0_ n1_ n2_; clear hb ho15) | ((with_reducible refine gate_builtin (b := .append) (xs := #[.tmp 19, .tmp 20]) rfl ?_); (try (refine gate_guard (by rfl) ?_; dsimp only)); at_builtin; refine Kd.R_append_rows k25 (w0 := w) w.heap.size rfl (.tmp 19) (.tmp 20) 22 25 (.agg #[(.int .u64 0), (.int .u64 0)]) 16 rfl Try.underlying22 info25 rfl (by decide) (by omega) v180 y179 l0 _ _ _ (fun k_ => k_ ≠ gb177) (fun _ => False) rfl rfl ?aO ?aR (fun _ _ h => h) (fun _ h => h.elim) ?aF ?aB ?aS ?aL ?_; (case aR => repeat (first | exact (Kd.C_below HR0.out HB.out) | (with_reducible refine Kd.C_alloc ?_ _) | (with_reducible refine Kd.C_drewN ?_ _) | (with_reducible refine Kd.C_drew ?_))); (case aB => exact (by repeat (first | (with_reducible first | exact HB.out | apply below_alloc | apply pw_below_drewN | apply below_drew1 | refine below_set ?_ GE177.out) | exact HB.out))); (case aF => exact (fun k_ hk => Kd.freshB (g := gb177) (o := .cells #[.int .u64 a2_0, .int .u64 a2_1] 25 (0, 0)) (by (with_reducible repeat (first | refine blk_drewN ?_ _ | refine blk_drew ?_ | refine blk_alloc ?_ _)); exact BK177.out) k_ hk)); (case aO => exact (by (with_reducible repeat (first | apply Kd.R_alloc | apply Kd.R_drewN | apply Kd.R_drew)); exact Kd.R_mono HO181.out (fun _ hk => hk.2))); (case aS => exact (below_size (by repeat (first | (with_reducible first | exact HB.out | apply below_alloc | apply pw_below_drewN | apply below_drew1 | refine below_set ?_ GE177.out) | exact HB.out)))); (case aL => have := LMc8.out; omega); intro v183 w16 ho hb hg hat; rw [← Ny182.out] at ho; have n0_ := Aside0.mk (blk_grown (g := gb177) (o := .cells #[.int .u64 a2_0, .int .u64 a2_1] 25 (0, 0)) (by (with_reducible repeat (first | refine blk_drewN ?_ _ | refine blk_drew ?_ | refine blk_alloc ?_ _)); exact BK177.out) hg (Kd.R_away HO181.out (fun _ hk => hk.2))); have n1_ := Aside0.mk (hb); have n2_ := Aside0.mk (ho); clear BK177; clear HB; clear HO181; have BK177 := n0_; have HB := n1_; have HO184 := n2_; clear n0_ n1_ n2_; clear ho hb hg hat; have hcz17_0 : w16.cell? ⟨gb177, 0, none⟩ = some (.int .u64 a2_0) := (blk_cell BK177.out 0).trans rfl; have hcz17_1 : w16.cell? ⟨gb177, 1, none⟩ = some (.int .u64 a2_1) := (blk_cell BK177.out 1).trans rfl; have hfz17_0 := blk_frozen BK177.out 0; have hfz17_1 := blk_frozen BK177.out 1; obtain ⟨Ao18, co18, eo18⟩ := Kd.R_slice HO184.out; subst eo18) | (go_at_call 10; (with_reducible refine (filt_PushMax.calls k _ _ y182 a1 a2_0 a2_1 t185 _ ?side1 ?side2 A9.out).mono ?_); (case side1 => repeat (first | exact (Kd.R_reads' HO184.out).2.2 | (with_reducible refine Kd.C_alloc ?_ _) | (with_reducible refine Kd.C_drewN ?_ _) | (with_reducible refine Kd.C_drew ?_))); (case side2 => exact (Kd.R_reads' HO184.out).2.1); rintro e w19 ⟨v186, rfl, ho0, hb⟩; have n0_ := Aside0.mk (Kd.R_elder' (by (with_reducible repeat (first | apply Kd.R_alloc | apply Kd.R_drewN | apply Kd.R_drew)); exact HO184.out) (Kd.R_base ho0) hb); have n1_ := Aside0.mk (Kd.R_lower (Kd.R_newB (Kd.R_new' ho0 (Kd.R_lt (by (with_reducible repeat (first | apply Kd.R_alloc | apply Kd.R_drewN | apply Kd.R_drew)); exact HO184.out))) (g := gb177) (o := .cells #[.int .u64 a2_0, .int .u64 a2_1] 25 (0, 0)) (by (with_reducible repeat (first | refine blk_drewN ?_ _ | refine blk_drew ?_ | refine blk_alloc ?_ _)); exact BK177.out)) (below_size (by repeat (first | (with_reducible first | exact HB.out | apply below_alloc | apply pw_below_drewN | apply below_drew1 | refine below_set ?_ GE177.out) | exact HB.out)))); have n2_ := Aside0.mk (blk_below (g := gb177) (o := .cells #[.int .u64 a2_0, .int .u64 a2_1] 25 (0, 0)) (by (with_reducible repeat (first | refine blk_drewN ?_ _ | refine blk_drew ?_ | refine blk_alloc ?_ _)); exact BK177.out) hb); have n3_ := Aside0.mk (below_step (by repeat (first | (with_reducible first | exact HB.out | apply below_alloc | apply pw_below_drewN | apply below_drew1 | refine below_set ?_ GE177.out) | exact HB.out)) hb); clear HO184; clear BK177; clear HB; have HO184 := n0_; have HO187 := n1_; have BK177 := n2_; have HB := n3_; clear n0_ n1_ n2_ n3_; (try clear hb); (try clear hb2); (try clear hk); (try clear hi); (try clear ho0); have hcz20_0 : w19.cell? ⟨gb177, 0, none⟩ = some (.int .u64 a2_0) := (blk_cell BK177.out 0).trans rfl; have hcz20_1 : w19.cell? ⟨gb177, 1, none⟩ = some (.int .u64 a2_1) := (blk_cell BK177.out 1).trans rfl; have hfz20_0 := blk_frozen BK177.out 0; have hfz20_1 := blk_frozen BK177.out 1) | (go_at_call 12; (with_reducible refine (filt_PushMin.calls k _ _ y182 a1 a2_0 a2_1 t188 _ ?side1 ?side2 A10.out).mono ?_); (case side1 => repeat (first | exact (Kd.R_reads' HO184.out).2.2 | (with_reducible refine Kd.C_alloc ?_ _) | (with_reducible refine Kd.C_drewN ?_ _) | (with_reducible refine Kd.C_drew ?_))); (case side2 => exact (Kd.R_reads' HO184.out).2.1); rintro e w21 ⟨v189, rfl, ho0, hb⟩; have n0_ := Aside0.mk (Kd.R_elder' (by (with_reducible repeat (first | apply Kd.R_alloc | apply Kd.R_drewN | apply Kd.R_drew)); exact HO184.out) (Kd.R_base ho0) hb); have n1_ := Aside0.mk (Kd.R_elder' (by (with_reducible repeat (first | apply Kd.R_alloc | apply Kd.R_drewN | apply Kd.R_drew)); exact HO187.out) (Kd.R_base ho0) hb); have n2_ := Aside0.mk (Kd.R_lower (Kd.R_newB (Kd.R_new' (Kd.R_new' ho0 (Kd.R_lt (by (with_reducible repeat (first | apply Kd.R_alloc | apply Kd.R_drewN | apply Kd.R_drew)); exact HO184.out))) (Kd.R_lt (by (with_reducible repeat (first | apply Kd.R_alloc | apply Kd.R_drewN | apply Kd.R_drew)); exact HO187.out))) (g := gb177) (o := .cells #[.int .u64 a2_0, .int .u64 a2_1] 25 (0, 0)) (by (with_reducible repeat (first | refine blk_drewN ?_ _ | refine blk_drew ?_ | refine blk_alloc ?_ _)); exact BK177.out)) (below_size (by repeat (first | (with_reducible first | exact HB.out | apply below_alloc | apply pw_below_drewN | apply below_drew1 | refine below_set ?_ GE177.out) | exact HB.out)))); have n3_ := Aside0.mk (blk_below (g := gb177) (o := .cells #[.int .u64 a2_0, .int .u64 a2_1] 25 (0, 0)) (by (with_reducible repeat (first | refine blk_drewN ?_ _ | refine blk_drew ?_ | refine blk_alloc ?_ _)); exact BK177.out) hb); have n4_ := Aside0.mk (below_step (by repeat (first | (with_reducible first | exact HB.out | apply below_alloc | apply pw_below_drewN | apply below_drew1 | refine below_set ?_ GE177.out) | exact HB.out)) hb); clear HO184; clear HO187; clear BK177; clear HB; have HO184 := n0_; have HO187 := n1_; have HO190 := n2_; have BK177 := n3_; have HB := n4_; clear n0_ n1_ n2_ n3_ n4_; (try clear hb); (try clear hb2); (try clear hk); (try clear hi); (try clear ho0))))
      (try simp only [Act.put, List.setIfInBounds_toArray, List.set_cons_zero, List.set_cons_succ])
      go_cut [57] (fun v57 wc => ∃ (kq : Nat) (x57_10 : Bool), v57 = .bool x57_10 ∧ Aside0 (wigwaglaw02_FiltFalls.j0 kq l0 t178 y182 t185 t188 x57_10 a2_0 a2_1 = some r) ∧ Aside0 (kq ≤ k) ∧ Aside0 (Kd.R k25 25 wc w.heap.size (fun k_ => some k_ ≠ (v186 : Value).ownBlock ∧ some k_ ≠ (v189 : Value).ownBlock ∧ k_ ≠ gb177) (.slice Ao18 y182.length co18) y182) ∧ Aside0 (Kd.R k25 25 wc w.heap.size (fun k_ => some k_ ≠ ((.slice Ao18 y182.length co18) : Value).ownBlock ∧ some k_ ≠ (v189 : Value).ownBlock ∧ k_ ≠ gb177) v186 t185) ∧ Aside0 (Kd.R k25 25 wc w.heap.size (fun k_ => some k_ ≠ ((.slice Ao18 y182.length co18) : Value).ownBlock ∧ some k_ ≠ (v186 : Value).ownBlock ∧ k_ ≠ gb177) v189 t188) ∧ Aside0 (wc.heap[gb177]? = some (.cells #[.int .u64 a2_0, .int .u64 a2_1] 25 (0, 0))) ∧ Aside0 (Below w.heap.size w wc))
      case first =>
        have H := HC11.out
        clear HC11
        by_cases c22 : (t185.length : Int) = 0
        · rw [if_pos c22] at H
          have c22b0 : ((t185.length : Int) == 0) = true := beq_iff_eq.mpr c22
          have c22b1 : ((t185.length : Int) != 0) = false := bne_eq_false_iff_eq.mpr c22
          clear c22
          (first | rw [c22b0] | (simp only [i64_w, i32_w]; rw [c22b0]) | skip)
          have H' := Aside0.mk H
          clear H
          obtain ⟨Ao23, co23, eo23⟩ := Kd.R_slice HO187.out
          subst eo23
          go_wp2
          repeat (go_quiet (fail); try go_wp2)
          go_meet
          case rel => exact ⟨_, (true), (by first | rfl | (simp; done) | (simp [*]; done)), H', ⟨by first | omega | exact Nat.le_refl _⟩, ⟨by (with_reducible repeat (first | apply Kd.R_alloc | apply Kd.R_drewN | apply Kd.R_drew)); exact Kd.R_mono HO184.out (fun _ hk => ⟨hk.1.2, ⟨hk.2, hk.1.1⟩⟩)⟩, ⟨by (with_reducible repeat (first | apply Kd.R_alloc | apply Kd.R_drewN | apply Kd.R_drew)); exact Kd.R_mono HO187.out (fun _ hk => ⟨hk.1.1.2, ⟨hk.2, hk.1.2⟩⟩)⟩, ⟨by (with_reducible repeat (first | apply Kd.R_alloc | apply Kd.R_drewN | apply Kd.R_drew)); exact Kd.R_mono HO190.out (fun _ hk => ⟨hk.1.1.2, ⟨hk.1.2, hk.2⟩⟩)⟩, ⟨by (with_reducible repeat (first | refine blk_drewN ?_ _ | refine blk_drew ?_ | refine blk_alloc ?_ _)); exact BK177.out⟩, ⟨by repeat (first | (with_reducible first | exact HB.out | apply below_alloc | apply pw_below_drewN | apply below_drew1 | refine below_set ?_ GE177.out) | exact HB.out)⟩⟩
        · rw [if_neg c22] at H
          have c22b0 : ((t185.length : Int) == 0) = false := beq_eq_false_iff_ne.mpr c22
          have c22b1 : ((t185.length : Int) != 0) = true := bne_iff_ne.mpr c22
          have c22b2 : ¬ (t185 = []) := fun h_ => c22 (by rw [h_]; rfl)
          (first | rw [c22b0] | (simp only [i64_w, i32_w]; rw [c22b0]) | skip)
          by_cases c24 : (t188.length : Int) = 0
          · rw [if_pos c24] at H
            have c24b0 : ((t188.length : Int) == 0) = true := beq_iff_eq.mpr c24
            have c24b1 : ((t188.length : Int) != 0) = false := bne_eq_false_iff_eq.mpr c24
            clear c24
            have H' := Aside0.mk H
            clear H
            obtain ⟨Ao25, co25, eo25⟩ := Kd.R_slice HO187.out
            subst eo25
            obtain ⟨Ao26, co26, eo26⟩ := Kd.R_slice HO190.out
            subst eo26
            go_wp2
            repeat (go_quiet (fail); try go_wp2)
            go_meet
            case rel => exact ⟨_, (true), (by first | rfl | (simp; done) | (simp [*]; done)), H', ⟨by first | omega | exact Nat.le_refl _⟩, ⟨by (with_reducible repeat (first | apply Kd.R_alloc | apply Kd.R_drewN | apply Kd.R_drew)); exact Kd.R_mono HO184.out (fun _ hk => ⟨hk.1.2, ⟨hk.2, hk.1.1⟩⟩)⟩, ⟨by (with_reducible repeat (first | apply Kd.R_alloc | apply Kd.R_drewN | apply Kd.R_drew)); exact Kd.R_mono HO187.out (fun _ hk => ⟨hk.1.1.2, ⟨hk.2, hk.1.2⟩⟩)⟩, ⟨by (with_reducible repeat (first | apply Kd.R_alloc | apply Kd.R_drewN | apply Kd.R_drew)); exact Kd.R_mono HO190.out (fun _ hk => ⟨hk.1.1.2, ⟨hk.1.2, hk.2⟩⟩)⟩, ⟨by (with_reducible repeat (first | refine blk_drewN ?_ _ | refine blk_drew ?_ | refine blk_alloc ?_ _)); exact BK177.out⟩, ⟨by repeat (first | (with_reducible first | exact HB.out | apply below_alloc | apply pw_below_drewN | apply below_drew1 | refine below_set ?_ GE177.out) | exact HB.out)⟩⟩
          · rw [if_neg c24] at H
            have c24b0 : ((t188.length : Int) == 0) = false := beq_eq_false_iff_ne.mpr c24
            have c24b1 : ((t188.length : Int) != 0) = true := bne_iff_ne.mpr c24
            have c24b2 : ¬ (t188 = []) := fun h_ => c24 (by rw [h_]; rfl)
            obtain ⟨ji27, hji27⟩ : ∃ j_ : Int, (wrap64 ((t185.length : Int) - 1)) = j_ := ⟨_, rfl⟩
            replace H : (if 0 ≤ (ji27) then (if (ji27) < (t185.length : Int) then (if (!(((rd_T25 t185 (ji27)).f0) == a2_0) || (!(((rd_T25 t185 (ji27)).f1) == a2_1))) = true then (wigwaglaw02_FiltFalls.j0 k l0 t178 y182 t185 t188 true a2_0 a2_1) else (if 0 ≤ (wrap64 ((t188.length : Int) - 1)) then (if (wrap64 ((t188.length : Int) - 1)) < (t188.length : Int) then (wigwaglaw02_FiltFalls.j0 k l0 t178 y182 t185 t188 (!(((rd_T25 t188 (wrap64 ((t188.length : Int) - 1))).f0) == a2_0) || (!(((rd_T25 t188 (wrap64 ((t188.length : Int) - 1))).f1) == a2_1))) a2_0 a2_1) else (none)) else (none))) else (none)) else (none)) = some r := by first | (rw [hji27] at H; exact H) | (simp only [hji27] at H ⊢; exact H)
            have hji27w : (IntKind.i64.wrap ((t185.length : Int) - 1)) = ji27 := (i64_w _).trans hji27
            by_cases c28 : 0 ≤ (ji27)
            · rw [if_pos c28] at H
              have c28b0 : decide (0 ≤ (ji27)) = true := decide_eq_true c28
              clear c28
              by_cases c29 : (ji27) < (t185.length : Int)
              · rw [if_pos c29] at H
                have c29b0 : decide ((ji27) < (t185.length : Int)) = true := decide_eq_true c29
                clear c29
                by_cases c30 : (!(((rd_T25 t185 (ji27)).f0) == a2_0) || (!(((rd_T25 t185 (ji27)).f1) == a2_1))) = true
                · rw [if_pos c30] at H
                  have c30b0 : (!(((rd_T25 t185 (ji27)).f0) == a2_0) || (!(((rd_T25 t185 (ji27)).f1) == a2_1))) = true := c30
                  clear c30
                  have H' := Aside0.mk H
                  clear H
                  obtain ⟨Ao31, co31, eo31⟩ := Kd.R_slice HO187.out
                  subst eo31
                  obtain ⟨Ao32, co32, eo32⟩ := Kd.R_slice HO190.out
                  subst eo32
                  have p191 : 0 ≤ ((ji27) : Int) := of_decide_eq_true (by first | (with_reducible assumption) | assumption)
                  have q191 : (ji27) < (t185.length : Int) := of_decide_eq_true (by first | (with_reducible assumption) | assumption)
                  obtain ⟨ad191, e191, hx191_0, hx191_1⟩ := at_T25 (Kd.R_reads' HO187.out).2.2 (ji27) p191 q191
                  cases e191
                  replace p191 := eq_true p191
                  replace q191 := eq_true q191
                  have hcz33_0 : w21.cell? ⟨gb177, 0, none⟩ = some (.int .u64 a2_0) := (blk_cell BK177.out 0).trans rfl
                  have hcz33_1 : w21.cell? ⟨gb177, 1, none⟩ = some (.int .u64 a2_1) := (blk_cell BK177.out 1).trans rfl
                  have hfz33_0 := blk_frozen BK177.out 0
                  have hfz33_1 := blk_frozen BK177.out 1
                  go_wp2
                  repeat (go_quiet (fail); try go_wp2)
                  go_meet
                  case rel => exact ⟨_, (true), (by first | rfl | (simp; done) | (simp [*]; done)), H', ⟨by first | omega | exact Nat.le_refl _⟩, ⟨by (with_reducible repeat (first | apply Kd.R_alloc | apply Kd.R_drewN | apply Kd.R_drew)); exact Kd.R_mono HO184.out (fun _ hk => ⟨hk.1.2, ⟨hk.2, hk.1.1⟩⟩)⟩, ⟨by (with_reducible repeat (first | apply Kd.R_alloc | apply Kd.R_drewN | apply Kd.R_drew)); exact Kd.R_mono HO187.out (fun _ hk => ⟨hk.1.1.2, ⟨hk.2, hk.1.2⟩⟩)⟩, ⟨by (with_reducible repeat (first | apply Kd.R_alloc | apply Kd.R_drewN | apply Kd.R_drew)); exact Kd.R_mono HO190.out (fun _ hk => ⟨hk.1.1.2, ⟨hk.1.2, hk.2⟩⟩)⟩, ⟨by (with_reducible repeat (first | refine blk_drewN ?_ _ | refine blk_drew ?_ | refine blk_alloc ?_ _)); exact BK177.out⟩, ⟨by repeat (first | (with_reducible first | exact HB.out | apply below_alloc | apply pw_below_drewN | apply below_drew1 | refine below_set ?_ GE177.out) | exact HB.out)⟩⟩
                · rw [if_neg c30] at H
                  have c30b0 : (!(((rd_T25 t185 (ji27)).f0) == a2_0) || (!(((rd_T25 t185 (ji27)).f1) == a2_1))) = false := by simpa using c30
                  clear c30
                  obtain ⟨ji34, hji34⟩ : ∃ j_ : Int, (wrap64 ((t188.length : Int) - 1)) = j_ := ⟨_, rfl⟩
                  replace H : (if 0 ≤ (ji34) then (if (ji34) < (t188.length : Int) then (wigwaglaw02_FiltFalls.j0 k l0 t178 y182 t185 t188 (!(((rd_T25 t188 (ji34)).f0) == a2_0) || (!(((rd_T25 t188 (ji34)).f1) == a2_1))) a2_0 a2_1) else (none)) else (none)) = some r := by first | (rw [hji34] at H; exact H) | (simp only [hji34] at H ⊢; exact H)
                  have hji34w : (IntKind.i64.wrap ((t188.length : Int) - 1)) = ji34 := (i64_w _).trans hji34
                  by_cases c35 : 0 ≤ (ji34)
                  · rw [if_pos c35] at H
                    have c35b0 : decide (0 ≤ (ji34)) = true := decide_eq_true c35
                    clear c35
                    by_cases c36 : (ji34) < (t188.length : Int)
                    · rw [if_pos c36] at H
                      have c36b0 : decide ((ji34) < (t188.length : Int)) = true := decide_eq_true c36
                      clear c36
                      have H' := Aside0.mk H
                      clear H
                      obtain ⟨Ao37, co37, eo37⟩ := Kd.R_slice HO187.out
                      subst eo37
                      obtain ⟨Ao38, co38, eo38⟩ := Kd.R_slice HO190.out
                      subst eo38
                      have p191 : 0 ≤ ((ji27) : Int) := of_decide_eq_true (by first | (with_reducible assumption) | assumption)
                      have q191 : (ji27) < (t185.length : Int) := of_decide_eq_true (by first | (with_reducible assumption) | assumption)
                      obtain ⟨ad191, e191, hx191_0, hx191_1⟩ := at_T25 (Kd.R_reads' HO187.out).2.2 (ji27) p191 q191
                      cases e191
                      replace p191 := eq_true p191
                      replace q191 := eq_true q191
                      have hcz39_0 : w21.cell? ⟨gb177, 0, none⟩ = some (.int .u64 a2_0) := (blk_cell BK177.out 0).trans rfl
                      have hcz39_1 : w21.cell? ⟨gb177, 1, none⟩ = some (.int .u64 a2_1) := (blk_cell BK177.out 1).trans rfl
                      have hfz39_0 := blk_frozen BK177.out 0
                      have hfz39_1 := blk_frozen BK177.out 1
                      have p192 : 0 ≤ ((ji34) : Int) := of_decide_eq_true (by first | (with_reducible assumption) | assumption)
                      have q192 : (ji34) < (t188.length : Int) := of_decide_eq_true (by first | (with_reducible assumption) | assumption)
                      obtain ⟨ad192, e192, hx192_0, hx192_1⟩ := at_T25 (Kd.R_reads' HO190.out).2.2 (ji34) p192 q192
                      cases e192
                      replace p192 := eq_true p192
                      replace q192 := eq_true q192
                      go_wp2
                      repeat (go_quiet (fail); try go_wp2)
                      go_meet
                      case rel => exact ⟨_, ((!(((rd_T25 t188 (ji34)).f0) == a2_0) || (!(((rd_T25 t188 (ji34)).f1) == a2_1)))), (by first | rfl | (simp; done) | (simp only [← hji34] <;> (first | rfl | (simp; done))) | (simp [*]; done) | (simp only [← hji34]; congr 1; unfold mn mx; omega) | (simp only [← hji34]; congr 1; unfold mn; omega) | (simp only [← hji34]; congr 1; unfold mx; omega)), H', ⟨by first | omega | exact Nat.le_refl _⟩, ⟨by (with_reducible repeat (first | apply Kd.R_alloc | apply Kd.R_drewN | apply Kd.R_drew)); exact Kd.R_mono HO184.out (fun _ hk => ⟨hk.1.2, ⟨hk.2, hk.1.1⟩⟩)⟩, ⟨by (with_reducible repeat (first | apply Kd.R_alloc | apply Kd.R_drewN | apply Kd.R_drew)); exact Kd.R_mono HO187.out (fun _ hk => ⟨hk.1.1.2, ⟨hk.2, hk.1.2⟩⟩)⟩, ⟨by (with_reducible repeat (first | apply Kd.R_alloc | apply Kd.R_drewN | apply Kd.R_drew)); exact Kd.R_mono HO190.out (fun _ hk => ⟨hk.1.1.2, ⟨hk.1.2, hk.2⟩⟩)⟩, ⟨by (with_reducible repeat (first | refine blk_drewN ?_ _ | refine blk_drew ?_ | refine blk_alloc ?_ _)); exact BK177.out⟩, ⟨by repeat (first | (with_reducible first | exact HB.out | apply below_alloc | apply pw_below_drewN | apply below_drew1 | refine below_set ?_ GE177.out) | exact HB.out)⟩⟩
                    · rw [if_neg c36] at H
                      exact absurd H (by simp)
                  · rw [if_neg c35] at H
                    exact absurd H (by simp)
              · rw [if_neg c29] at H
                exact absurd H (by simp)
            · rw [if_neg c28] at H
              exact absurd H (by simp)
      case rest =>
        clear HC11
        try clear p1
        try clear q1
        try clear hx1
        try clear c2
        try clear p2
        try clear c3
        try clear c5
        try clear c5b0
        try clear c5b1
        try clear p6
        try clear c8
        try clear p19
        try clear q19
        try clear hx19
        try clear c22
        try clear c22b0
        try clear c22b1
        try clear c22b2
        try clear c24
        try clear c24b0
        try clear c24b1
        try clear c24b2
        try clear c28
        try clear c28b0
        try clear c29
        try clear c29b0
        try clear c30
        try clear c30b0
        try clear c35
        try clear c35b0
        try clear c36
        try clear c36b0
        try clear hcz17_0
        try clear hcz17_1
        try clear hcz20_0
        try clear hcz20_1
        try clear hcz33_0
        try clear hcz33_1
        try clear hcz39_0
        try clear hcz39_1
        try clear hfz17_0
        try clear hfz17_1
        try clear hfz20_0
        try clear hfz20_1
        try clear hfz33_0
        try clear hfz33_1
        try clear hfz39_0
        try clear hfz39_1
        try clear hx191_0
        try clear hx191_1
        try clear hx192_0
        try clear hx192_1
        try clear p191
        try clear p192
        try clear q191
        try clear q192
        obtain ⟨kq, x57_10, rfl, HA, HJ10, HO_8, HO_9, HO_10, BK177, HB⟩ := hcut
        cases kq with
        | zero => exact absurd HA.out (by simp [wigwaglaw02_FiltFalls.j0])
        | succ kj10 =>
          have H := HA.out
          clear HA
          simp only [wigwaglaw02_FiltFalls.j0] at H
          by_cases c40 : x57_10 = true
          · subst c40
            have H1 : (some false) = some r := by rw [if_pos rfl] at H; exact H
            clear H
            have H := H1
            clear H1
            obtain rfl := Option.some.inj H
            go_wp2
            repeat (go_quiet (fail); try go_wp2)
            go_ret
            exact ⟨by first | rfl | (simp [errW_none, errW_some] <;> rfl) | (simp [*, errW_none, errW_some] <;> rfl), by repeat (first | (with_reducible first | exact HB.out | apply below_alloc | apply pw_below_drewN | apply below_drew1 | refine below_set ?_ GE177.out) | exact HB.out)⟩
          · replace c40 := Bool.eq_false_iff.mpr c40
            subst c40
            have H1 : (wigwaglaw02_FiltFalls.l0 kj10 l0 t178 y182 t185 t188 0 a2_0 a2_1) = some r := by rw [if_neg (show ¬ (false = true) by decide)] at H; exact H
            clear H
            have H := H1
            clear H1
            have H' := Aside0.mk H
            clear H
            go_wp2
            repeat (go_quiet (fail); try go_wp2)
            go_loopg [11] kj10 (fun kq v11 w' => ∃ (x11_2 : Int), v11 = .int .i64 x11_2 ∧ Aside0 (wigwaglaw02_FiltFalls.l0 kq l0 t178 y182 t185 t188 x11_2 a2_0 a2_1 = some r) ∧ Aside0 (kq ≤ kj10) ∧ Aside0 (Kd.R k25 25 w' w.heap.size (fun k_ => some k_ ≠ (v186 : Value).ownBlock ∧ some k_ ≠ (v189 : Value).ownBlock ∧ k_ ≠ gb177) (.slice Ao18 y182.length co18) y182) ∧ Aside0 (Kd.R k25 25 w' w.heap.size (fun k_ => some k_ ≠ ((.slice Ao18 y182.length co18) : Value).ownBlock ∧ some k_ ≠ (v189 : Value).ownBlock ∧ k_ ≠ gb177) v186 t185) ∧ Aside0 (Kd.R k25 25 w' w.heap.size (fun k_ => some k_ ≠ ((.slice Ao18 y182.length co18) : Value).ownBlock ∧ some k_ ≠ (v186 : Value).ownBlock ∧ k_ ≠ gb177) v189 t188) ∧ Aside0 (w'.heap[gb177]? = some (.cells #[.int .u64 a2_0, .int .u64 a2_1] 25 (0, 0))) ∧ Aside0 (Below w.heap.size w w'))
            case atStart => exact ⟨(0), (by first | rfl | (simp; done) | (simp [*]; done)), H', ⟨Nat.le_refl _⟩, ⟨by (with_reducible repeat (first | apply Kd.R_alloc | apply Kd.R_drewN | apply Kd.R_drew)); exact HO_8.out⟩, ⟨by (with_reducible repeat (first | apply Kd.R_alloc | apply Kd.R_drewN | apply Kd.R_drew)); exact HO_9.out⟩, ⟨by (with_reducible repeat (first | apply Kd.R_alloc | apply Kd.R_drewN | apply Kd.R_drew)); exact HO_10.out⟩, ⟨by (with_reducible repeat (first | refine blk_drewN ?_ _ | refine blk_drew ?_ | refine blk_alloc ?_ _)); exact BK177.out⟩, ⟨by repeat (first | (with_reducible first | exact HB.out | apply below_alloc | apply pw_below_drewN | apply below_drew1 | refine below_set ?_ GE177.out) | exact HB.out)⟩⟩
            case round =>
              clear H'
              try clear p1
              try clear q1
              try clear hx1
              try clear c2
              try clear p2
              try clear c3
              try clear c4
              try clear c5
              try clear c5b0
              try clear c5b1
              try clear p6
              try clear c8
              try clear p19
              try clear q19
              try clear hx19
              try clear c22
              try clear c22b0
              try clear c22b1
              try clear c22b2
              try clear c24
              try clear c24b0
              try clear c24b1
              try clear c24b2
              try clear c28
              try clear c28b0
              try clear c29
              try clear c29b0
              try clear c30
              try clear c30b0
              try clear c35
              try clear c35b0
              try clear c36
              try clear c36b0
              try clear c40
              try clear hcz17_0
              try clear hcz17_1
              try clear hcz20_0
              try clear hcz20_1
              try clear hcz33_0
              try clear hcz33_1
              try clear hcz39_0
              try clear hcz39_1
              try clear hfz17_0
              try clear hfz17_1
              try clear hfz20_0
              try clear hfz20_1
              try clear hfz33_0
              try clear hfz33_1
              try clear hfz39_0
              try clear hfz39_1
              try clear hx191_0
              try clear hx191_1
              try clear hx192_0
              try clear hx192_1
              try clear p1
              try clear p19
              try clear p191
              try clear p192
              try clear p2
              try clear p6
              try clear q1
              try clear q19
              try clear q191
              try clear q192
              obtain ⟨x11_2, rfl, HA, HK2, HO_8, HO_9, HO_10, BK177, HB⟩ := hrel
              cases gk with
              | zero => exact absurd HA.out (by simp [wigwaglaw02_FiltFalls.l0])
              | succ k2 =>
                have H := HA.out
                clear HA
                simp only [wigwaglaw02_FiltFalls.l0] at H
                by_cases c41 : x11_2 < (wrap64 ((t185.length : Int) - 1))
                · rw [if_pos c41] at H
                  have c41b0 : decide (x11_2 < (wrap64 ((t185.length : Int) - 1))) = true := decide_eq_true c41
                  clear c41
                  by_cases c42 : 0 ≤ x11_2
                  · rw [if_pos c42] at H
                    have c42b0 : decide (0 ≤ x11_2) = true := decide_eq_true c42
                    clear c42
                    by_cases c43 : x11_2 < (t185.length : Int)
                    · rw [if_pos c43] at H
                      have c43b0 : decide (x11_2 < (t185.length : Int)) = true := decide_eq_true c43
                      clear c43
                      by_cases c44 : ((rd_T25 t185 x11_2).f1) ≤ a2_1
                      · rw [if_pos c44] at H
                        have c44b0 : decide (((rd_T25 t185 x11_2).f1) ≤ a2_1) = true := decide_eq_true c44
                        clear c44
                        obtain rfl := Option.some.inj H
                        obtain ⟨Ao45, co45, eo45⟩ := Kd.R_slice HO_9.out
                        subst eo45
                        have p193 : 0 ≤ (x11_2 : Int) := of_decide_eq_true (by first | (with_reducible assumption) | assumption)
                        have q193 : x11_2 < (t185.length : Int) := of_decide_eq_true (by first | (with_reducible assumption) | assumption)
                        obtain ⟨ad193, e193, hx193_0, hx193_1⟩ := at_T25 (Kd.R_reads' HO_9.out).2.2 x11_2 p193 q193
                        cases e193
                        replace p193 := eq_true p193
                        replace q193 := eq_true q193
                        have hcz46_0 : wr.cell? ⟨gb177, 0, none⟩ = some (.int .u64 a2_0) := (blk_cell BK177.out 0).trans rfl
                        have hcz46_1 : wr.cell? ⟨gb177, 1, none⟩ = some (.int .u64 a2_1) := (blk_cell BK177.out 1).trans rfl
                        have hfz46_0 := blk_frozen BK177.out 0
                        have hfz46_1 := blk_frozen BK177.out 1
                        go_wp2
                        repeat (go_quiet (fail); try go_wp2)
                        go_ret
                        exact ⟨by first | rfl | (simp [errW_none, errW_some] <;> rfl) | (simp [*, errW_none, errW_some] <;> rfl), by repeat (first | (with_reducible first | exact HB.out | apply below_alloc | apply pw_below_drewN | apply below_drew1 | refine below_set ?_ GE177.out) | exact HB.out)⟩
                      · rw [if_neg c44] at H
                        have c44b0 : decide (((rd_T25 t185 x11_2).f1) ≤ a2_1) = false := decide_eq_false c44
                        clear c44
                        have H' := Aside0.mk H
                        clear H
                        obtain ⟨Ao47, co47, eo47⟩ := Kd.R_slice HO_9.out
                        subst eo47
                        have p193 : 0 ≤ (x11_2 : Int) := of_decide_eq_true (by first | (with_reducible assumption) | assumption)
                        have q193 : x11_2 < (t185.length : Int) := of_decide_eq_true (by first | (with_reducible assumption) | assumption)
                        obtain ⟨ad193, e193, hx193_0, hx193_1⟩ := at_T25 (Kd.R_reads' HO_9.out).2.2 x11_2 p193 q193
                        cases e193
                        replace p193 := eq_true p193
                        replace q193 := eq_true q193
                        have hcz48_0 : wr.cell? ⟨gb177, 0, none⟩ = some (.int .u64 a2_0) := (blk_cell BK177.out 0).trans rfl
                        have hcz48_1 : wr.cell? ⟨gb177, 1, none⟩ = some (.int .u64 a2_1) := (blk_cell BK177.out 1).trans rfl
                        have hfz48_0 := blk_frozen BK177.out 0
                        have hfz48_1 := blk_frozen BK177.out 1
                        go_wp2
                        repeat (go_quiet (fail); try go_wp2)
                        go_roundg k2
                        case measure => have := HJ10.out; have := HK2.out; omega
                        case rel => exact ⟨(wrap64 (x11_2 + 1)), (by first | rfl | (simp; done) | (simp [*]; done)), H', ⟨by have := HJ10.out; have := HK2.out; omega⟩, ⟨by (with_reducible repeat (first | apply Kd.R_alloc | apply Kd.R_drewN | apply Kd.R_drew)); exact HO_8.out⟩, ⟨by (with_reducible repeat (first | apply Kd.R_alloc | apply Kd.R_drewN | apply Kd.R_drew)); exact HO_9.out⟩, ⟨by (with_reducible repeat (first | apply Kd.R_alloc | apply Kd.R_drewN | apply Kd.R_drew)); exact HO_10.out⟩, ⟨by (with_reducible repeat (first | refine blk_drewN ?_ _ | refine blk_drew ?_ | refine blk_alloc ?_ _)); exact BK177.out⟩, ⟨by repeat (first | (with_reducible first | exact HB.out | apply below_alloc | apply pw_below_drewN | apply below_drew1 | refine below_set ?_ GE177.out) | exact HB.out)⟩⟩
                    · rw [if_neg c43] at H
                      exact absurd H (by simp)
                  · rw [if_neg c42] at H
                    exact absurd H (by simp)
                · rw [if_neg c41] at H
                  have c41b0 : decide (x11_2 < (wrap64 ((t185.length : Int) - 1))) = false := decide_eq_false c41
                  clear c41
                  have H' := Aside0.mk H
                  clear H
                  obtain ⟨Ao49, co49, eo49⟩ := Kd.R_slice HO_9.out
                  subst eo49
                  go_wp2
                  repeat (go_quiet (fail); try go_wp2)
                  go_loopg [12] k2 (fun kq v12 w' => ∃ (x12_3 : Int), v12 = .int .i64 x12_3 ∧ Aside0 (wigwaglaw02_FiltFalls.l1 kq l0 t178 y182 t185 t188 x12_3 a2_0 a2_1 = some r) ∧ Aside0 (kq ≤ k2) ∧ Aside0 (Kd.R k25 25 w' w.heap.size (fun k_ => some k_ ≠ ((.slice Ao49 t185.length co49) : Value).ownBlock ∧ some k_ ≠ (v189 : Value).ownBlock ∧ k_ ≠ gb177) (.slice Ao18 y182.length co18) y182) ∧ Aside0 (Kd.R k25 25 w' w.heap.size (fun k_ => some k_ ≠ ((.slice Ao18 y182.length co18) : Value).ownBlock ∧ some k_ ≠ (v189 : Value).ownBlock ∧ k_ ≠ gb177) (.slice Ao49 t185.length co49) t185) ∧ Aside0 (Kd.R k25 25 w' w.heap.size (fun k_ => some k_ ≠ ((.slice Ao18 y182.length co18) : Value).ownBlock ∧ some k_ ≠ ((.slice Ao49 t185.length co49) : Value).ownBlock ∧ k_ ≠ gb177) v189 t188) ∧ Aside0 (w'.heap[gb177]? = some (.cells #[.int .u64 a2_0, .int .u64 a2_1] 25 (0, 0))) ∧ Aside0 (Below w.heap.size w w'))
                  case atStart => exact ⟨(0), (by first | rfl | (simp; done) | (simp [*]; done)), H', ⟨Nat.le_refl _⟩, ⟨by (with_reducible repeat (first | apply Kd.R_alloc | apply Kd.R_drewN | apply Kd.R_drew)); exact HO_8.out⟩, ⟨by (with_reducible repeat (first | apply Kd.R_alloc | apply Kd.R_drewN | apply Kd.R_drew)); exact HO_9.out⟩, ⟨by (with_reducible repeat (first | apply Kd.R_alloc | apply Kd.R_drewN | apply Kd.R_drew)); exact HO_10.out⟩, ⟨by (with_reducible repeat (first | refine blk_drewN ?_ _ | refine blk_drew ?_ | refine blk_alloc ?_ _)); exact BK177.out⟩, ⟨by repeat (first | (with_reducible first | exact HB.out | apply below_alloc | apply pw_below_drewN | apply below_drew1 | refine below_set ?_ GE177.out) | exact HB.out)⟩⟩
                  case round =>
                    clear H'
                    try clear p1
                    try clear q1
                    try clear hx1
                    try clear c2
                    try clear p2
                    try clear c3
                    try clear c4
                    try clear c5
                    try clear c5b0
                    try clear c5b1
                    try clear p6
                    try clear c8
                    try clear p19
                    try clear q19
                    try clear hx19
                    try clear c22
                    try clear c22b0
                    try clear c22b1
                    try clear c22b2
                    try clear c24
                    try clear c24b0
                    try clear c24b1
                    try clear c24b2
                    try clear c28
                    try clear c28b0
                    try clear c29
                    try clear c29b0
                    try clear c30
                    try clear c30b0
                    try clear c35
                    try clear c35b0
                    try clear c36
                    try clear c36b0
                    try clear c40
                    try clear c41
                    try clear c41b0
                    try clear c42
                    try clear c42b0
                    try clear c43
                    try clear c43b0
                    try clear c44
                    try clear c44b0
                    try clear hcz17_0
                    try clear hcz17_1
                    try clear hcz20_0
                    try clear hcz20_1
                    try clear hcz33_0
                    try clear hcz33_1
                    try clear hcz39_0
                    try clear hcz39_1
                    try clear hcz46_0
                    try clear hcz46_1
                    try clear hcz48_0
                    try clear hcz48_1
                    try clear hfz17_0
                    try clear hfz17_1
                    try clear hfz20_0
                    try clear hfz20_1
                    try clear hfz33_0
                    try clear hfz33_1
                    try clear hfz39_0
                    try clear hfz39_1
                    try clear hfz46_0
                    try clear hfz46_1
                    try clear hfz48_0
                    try clear hfz48_1
                    try clear hx191_0
                    try clear hx191_1
                    try clear hx192_0
                    try clear hx192_1
                    try clear hx193_0
                    try clear hx193_1
                    try clear p1
                    try clear p19
                    try clear p191
                    try clear p192
                    try clear p193
                    try clear p2
                    try clear p6
                    try clear q1
                    try clear q19
                    try clear q191
                    try clear q192
                    try clear q193
                    obtain ⟨x12_3, rfl, HA, HK3, HO_8, HO_9, HO_10, BK177, HB⟩ := hrel
                    cases gk with
                    | zero => exact absurd HA.out (by simp [wigwaglaw02_FiltFalls.l1])
                    | succ k3 =>
                      have H := HA.out
                      clear HA
                      simp only [wigwaglaw02_FiltFalls.l1] at H
                      by_cases c50 : x12_3 < (wrap64 ((t188.length : Int) - 1))
                      · rw [if_pos c50] at H
                        have c50b0 : decide (x12_3 < (wrap64 ((t188.length : Int) - 1))) = true := decide_eq_true c50
                        clear c50
                        by_cases c51 : 0 ≤ x12_3
                        · rw [if_pos c51] at H
                          have c51b0 : decide (0 ≤ x12_3) = true := decide_eq_true c51
                          clear c51
                          by_cases c52 : x12_3 < (t188.length : Int)
                          · rw [if_pos c52] at H
                            have c52b0 : decide (x12_3 < (t188.length : Int)) = true := decide_eq_true c52
                            clear c52
                            by_cases c53 : ((rd_T25 t188 x12_3).f1) ≥ a2_1
                            · rw [if_pos c53] at H
                              have c53b0 : decide (a2_1 ≤ ((rd_T25 t188 x12_3).f1)) = true := decide_eq_true c53
                              clear c53
                              obtain rfl := Option.some.inj H
                              obtain ⟨Ao54, co54, eo54⟩ := Kd.R_slice HO_10.out
                              subst eo54
                              have p194 : 0 ≤ (x12_3 : Int) := of_decide_eq_true (by first | (with_reducible assumption) | assumption)
                              have q194 : x12_3 < (t188.length : Int) := of_decide_eq_true (by first | (with_reducible assumption) | assumption)
                              obtain ⟨ad194, e194, hx194_0, hx194_1⟩ := at_T25 (Kd.R_reads' HO_10.out).2.2 x12_3 p194 q194
                              cases e194
                              replace p194 := eq_true p194
                              replace q194 := eq_true q194
                              have hcz55_0 : wr.cell? ⟨gb177, 0, none⟩ = some (.int .u64 a2_0) := (blk_cell BK177.out 0).trans rfl
                              have hcz55_1 : wr.cell? ⟨gb177, 1, none⟩ = some (.int .u64 a2_1) := (blk_cell BK177.out 1).trans rfl
                              have hfz55_0 := blk_frozen BK177.out 0
                              have hfz55_1 := blk_frozen BK177.out 1
                              go_wp2
                              repeat (go_quiet (fail); try go_wp2)
                              go_ret
                              exact ⟨by first | rfl | (simp [errW_none, errW_some] <;> rfl) | (simp [*, errW_none, errW_some] <;> rfl), by repeat (first | (with_reducible first | exact HB.out | apply below_alloc | apply pw_below_drewN | apply below_drew1 | refine below_set ?_ GE177.out) | exact HB.out)⟩
                            · rw [if_neg c53] at H
                              have c53b0 : decide (a2_1 ≤ ((rd_T25 t188 x12_3).f1)) = false := decide_eq_false c53
                              clear c53
                              have H' := Aside0.mk H
                              clear H
                              obtain ⟨Ao56, co56, eo56⟩ := Kd.R_slice HO_10.out
                              subst eo56
                              have p194 : 0 ≤ (x12_3 : Int) := of_decide_eq_true (by first | (with_reducible assumption) | assumption)
                              have q194 : x12_3 < (t188.length : Int) := of_decide_eq_true (by first | (with_reducible assumption) | assumption)
                              obtain ⟨ad194, e194, hx194_0, hx194_1⟩ := at_T25 (Kd.R_reads' HO_10.out).2.2 x12_3 p194 q194
                              cases e194
                              replace p194 := eq_true p194
                              replace q194 := eq_true q194
                              have hcz57_0 : wr.cell? ⟨gb177, 0, none⟩ = some (.int .u64 a2_0) := (blk_cell BK177.out 0).trans rfl
                              have hcz57_1 : wr.cell? ⟨gb177, 1, none⟩ = some (.int .u64 a2_1) := (blk_cell BK177.out 1).trans rfl
                              have hfz57_0 := blk_frozen BK177.out 0
                              have hfz57_1 := blk_frozen BK177.out 1
                              go_wp2
                              repeat (go_quiet (fail); try go_wp2)
                              go_roundg k3
                              case measure => have := HJ10.out; have := HK2.out; have := HK3.out; omega
                              case rel => exact ⟨(wrap64 (x12_3 + 1)), (by first | rfl | (simp; done) | (simp [*]; done)), H', ⟨by have := HJ10.out; have := HK2.out; have := HK3.out; omega⟩, ⟨by (with_reducible repeat (first | apply Kd.R_alloc | apply Kd.R_drewN | apply Kd.R_drew)); exact HO_8.out⟩, ⟨by (with_reducible repeat (first | apply Kd.R_alloc | apply Kd.R_drewN | apply Kd.R_drew)); exact HO_9.out⟩, ⟨by (with_reducible repeat (first | apply Kd.R_alloc | apply Kd.R_drewN | apply Kd.R_drew)); exact HO_10.out⟩, ⟨by (with_reducible repeat (first | refine blk_drewN ?_ _ | refine blk_drew ?_ | refine blk_alloc ?_ _)); exact BK177.out⟩, ⟨by repeat (first | (with_reducible first | exact HB.out | apply below_alloc | apply pw_below_drewN | apply below_drew1 | refine below_set ?_ GE177.out) | exact HB.out)⟩⟩
                          · rw [if_neg c52] at H
                            exact absurd H (by simp)
                        · rw [if_neg c51] at H
                          exact absurd H (by simp)
                      · rw [if_neg c50] at H
                        have c50b0 : decide (x12_3 < (wrap64 ((t188.length : Int) - 1))) = false := decide_eq_false c50
                        clear c50
                        by_cases c58 : 0 < (t185.length : Int)
                        · rw [if_pos c58] at H
                          have c58b0 : decide (0 < (t185.length : Int)) = true := decide_eq_true c58
                          have c58b1 : decide (0 < t185.length) = true := decide_eq_true (by omega)
                          clear c58
                          obtain ⟨y195, hy195⟩ : ∃ y_ : List (S25), y_ = (t185.set (0 : Int).toNat (⟨(rd_T25 t185 0).f0, 1⟩ : S25)) := ⟨_, rfl⟩
                          replace H : (if 0 < (t188.length : Int) then ((wigwagref02_Same.f k3 y182 l0).bind fun t197 => (if t178 = true then (some t197) else (some false))) else (none)) = some r := by first | (rw [hy195]; with_reducible exact H) | (have H2_ := (Option.bind_some _ _).symm.trans H; rw [hy195]; with_reducible exact H2_) | (have H2_ := (Option.bind_some _ _).symm.trans H; with_reducible exact H2_) | with_reducible exact H | (rw [hy195]; exact H) | exact H
                          have Ny195 := Aside0.mk hy195
                          clear hy195
                          by_cases c60 : 0 < (t188.length : Int)
                          · rw [if_pos c60] at H
                            have c60b0 : decide (0 < (t188.length : Int)) = true := decide_eq_true c60
                            have c60b1 : decide (0 < t188.length) = true := decide_eq_true (by omega)
                            clear c60
                            obtain ⟨y196, hy196⟩ : ∃ y_ : List (S25), y_ = (t188.set (0 : Int).toNat (⟨(rd_T25 t188 0).f0, 1⟩ : S25)) := ⟨_, rfl⟩
                            replace H : ((wigwagref02_Same.f k3 y182 l0).bind fun t197 => (if t178 = true then (some t197) else (some false))) = some r := by first | (rw [hy196]; with_reducible exact H) | (have H2_ := (Option.bind_some _ _).symm.trans H; rw [hy196]; with_reducible exact H2_) | (have H2_ := (Option.bind_some _ _).symm.trans H; with_reducible exact H2_) | with_reducible exact H | (rw [hy196]; exact H) | exact H
                            have Ny196 := Aside0.mk hy196
                            clear hy196
                            replace H := Option.bind_eq_some_iff.mp H
                            obtain ⟨t197, A620, H⟩ := H
                            replace H : (if t178 = true then (some t197) else (some false)) = some r := H
                            have A62 := Aside0.mk A620
                            clear A620
                            have HS63 := Aside0.mk H
                            clear H
                            obtain ⟨Ao64, co64, eo64⟩ := Kd.R_slice HO_10.out
                            subst eo64
                            have p59 : 0 ≤ (0 : Int) := (by omega)
                            have q59 : (0 : Int) < ((t185.length : Int) : Int) := of_decide_eq_true (by first | (with_reducible assumption) | assumption)
                            have qi59 : (0 < t185.length) = True := eq_true (by omega)
                            obtain ⟨go59, co59, eo59, gb59, gl59, cl59, HG59⟩ := Kd.R_form HO_9.out (by omega)
                            (first | cases eo59 | (injection eo59 with ea_ en_ ec_; (first | subst ea_ | (injection ea_ with ea_; subst ea_)); subst ec_; clear en_))
                            have GB59 := Aside0.mk gb59
                            have GG59 := Aside0.mk HG59
                            clear gb59 gl59 HG59
                            obtain ⟨ce59, hcl59, hM59, hcc59, hfr59⟩ := Kd.R_elem HO_9.out z25 (0 : Int) p59 q59
                            obtain rfl := k25_openM hM59
                            have hx59_0 : wr.cell? ⟨go59, (0 : Int).toNat * 2, none⟩ = some (.int .u64 ((rd_T25 t185 0).f0)) := hcc59 0 _ rfl
                            have hx59_1 : wr.cell? ⟨go59, (0 : Int).toNat * 2 + 1, none⟩ = some (.int .u64 ((rd_T25 t185 0).f1)) := hcc59 1 _ rfl
                            have hf59_0 : wr.frozen? ⟨go59, (0 : Int).toNat * 2, none⟩ = false := hfr59 0
                            have hf59_1 : wr.frozen? ⟨go59, (0 : Int).toNat * 2 + 1, none⟩ = false := hfr59 1
                            clear hcl59 hcc59 hfr59 hM59
                            (try rw [show ((0 : Int)).toNat = 0 from rfl] at hx59_0)
                            (try simp only [Nat.reduceMul, Nat.zero_mul, Nat.zero_add, Nat.reduceAdd] at hx59_0)
                            (try rw [show ((0 : Int)).toNat = 0 from rfl] at hf59_0)
                            (try simp only [Nat.reduceMul, Nat.zero_mul, Nat.zero_add, Nat.reduceAdd] at hf59_0)
                            (try rw [show ((0 : Int)).toNat = 0 from rfl] at hx59_1)
                            (try simp only [Nat.reduceMul, Nat.zero_mul, Nat.zero_add, Nat.reduceAdd] at hx59_1)
                            (try rw [show ((0 : Int)).toNat = 0 from rfl] at hf59_1)
                            (try simp only [Nat.reduceMul, Nat.zero_mul, Nat.zero_add, Nat.reduceAdd] at hf59_1)
                            replace p59 := eq_true p59
                            replace q59 := eq_true q59
                            have HX65 := Aside0.mk (show Kd.R k25 25 wr w.heap.size (fun k_ => some k_ ≠ (.slice Ao18 y182.length co18 : Value).ownBlock ∧ some k_ ≠ (.slice Ao64 t188.length co64 : Value).ownBlock ∧ k_ ≠ gb177) (.slice (some ⟨go59, 0, none⟩) t185.length co49) t185 from (by (with_reducible repeat (first | apply Kd.R_alloc | apply Kd.R_drewN | apply Kd.R_drew)); exact HO_9.out))
                            obtain ⟨ce65, hcl65, hM65, hcc65, hfr65⟩ := Kd.R_elem HX65.out z25 (0 : Int) (by omega) (by have h_ : (0 : Int) < ((t185.length : Int) : Int) := of_decide_eq_true (by first | (with_reducible assumption) | assumption); first | exact h_ | (have e_ := (Kd.R_reads' HO_9.out).1; omega) | simpa using h_)
                            obtain rfl := k25_openM hM65
                            have HP65 := Kd.R_seg HX65.out (0 : Int) (by omega) (by have h_ : (0 : Int) < ((t185.length : Int) : Int) := of_decide_eq_true (by first | (with_reducible assumption) | assumption); first | exact h_ | (have e_ := (Kd.R_reads' HO_9.out).1; omega) | simpa using h_) (seg := [.int .u64 1]) (j := 1) hcl65 hcc65 (show 2 ≤ 2 from by decide) (x' := (⟨(rd_T25 t185 0).f0, 1⟩ : S25)) (k25_mkM _ _ _ (⟨(rd_T25 t185 0).f0, 1⟩ : S25) ) (fun _ hk => hk)
                            have hx65_1 := hcc65 1 _ rfl
                            (try simp only [show (k25).sz = 2 from rfl, Nat.mul_one, Nat.add_zero] at hx65_1)
                            (try rw [show ((0 : Int)).toNat = 0 from rfl] at hx65_1)
                            (try simp only [Nat.reduceMul, Nat.zero_mul, Nat.zero_add, Nat.reduceAdd] at hx65_1)
                            have hf65_1 := hfr65 1
                            (try simp only [show (k25).sz = 2 from rfl, Nat.mul_one, Nat.add_zero] at hf65_1)
                            (try rw [show ((0 : Int)).toNat = 0 from rfl] at hf65_1)
                            (try simp only [Nat.reduceMul, Nat.zero_mul, Nat.zero_add, Nat.reduceAdd] at hf65_1)
                            clear hcl65 hcc65 hfr65 hM65
                            go_upto_region 22 with (first | ((with_reducible refine gate_store (t := 23) (p := 90) rfl ?_); (try (rw [drewN_self wr]; generalize hq_ : World.drewN wr _ = wr; have n0_ := Aside0.mk (Kd.R_at hq_ HO_8.out); have n1_ := Aside0.mk (Kd.R_at hq_ HO_9.out); have n2_ := Aside0.mk (Kd.R_at hq_ HO_10.out); have n3_ := Aside0.mk (blk_at hq_ BK177.out); have n4_ := Aside0.mk (below_at hq_ HB.out); clear hq_ HO_8 HO_9 HO_10 BK177 HB; have HO_8 := n0_; have HO_9 := n1_; have HO_10 := n2_; have BK177 := n3_; have HB := n4_; clear n0_ n1_ n2_ n3_ n4_; (try (have HX65 := Aside0.mk (show Kd.R k25 25 wr w.heap.size (fun k_ => some k_ ≠ (.slice Ao18 y182.length co18 : Value).ownBlock ∧ some k_ ≠ (.slice Ao64 t188.length co64 : Value).ownBlock ∧ k_ ≠ gb177) (.slice (some ⟨go59, 0, none⟩) t185.length co49) t185 from (by (with_reducible repeat (first | apply Kd.R_alloc | apply Kd.R_drewN | apply Kd.R_drew)); exact HO_9.out)))); (try (obtain ⟨ce65, hcl65, hM65, hcc65, hfr65⟩ := Kd.R_elem HX65.out z25 (0 : Int) (by omega) (by have h_ : (0 : Int) < ((t185.length : Int) : Int) := of_decide_eq_true (by first | (with_reducible assumption) | assumption); first | exact h_ | (have e_ := (Kd.R_reads' HO_9.out).1; omega) | simpa using h_))); (try (obtain rfl := k25_openM hM65)); (try (have HP65 := Kd.R_seg HX65.out (0 : Int) (by omega) (by have h_ : (0 : Int) < ((t185.length : Int) : Int) := of_decide_eq_true (by first | (with_reducible assumption) | assumption); first | exact h_ | (have e_ := (Kd.R_reads' HO_9.out).1; omega) | simpa using h_) (seg := [.int .u64 1]) (j := 1) hcl65 hcc65 (show 2 ≤ 2 from by decide) (x' := (⟨(rd_T25 t185 0).f0, 1⟩ : S25)) (k25_mkM _ _ _ (⟨(rd_T25 t185 0).f0, 1⟩ : S25) ) (fun _ hk => hk))); (try (have hx65_1 := hcc65 1 _ rfl)); (try (try simp only [show (k25).sz = 2 from rfl, Nat.mul_one, Nat.add_zero] at hx65_1)); (try (try rw [show ((0 : Int)).toNat = 0 from rfl] at hx65_1)); (try (try simp only [Nat.reduceMul, Nat.zero_mul, Nat.zero_add, Nat.reduceAdd] at hx65_1)); (try (have hf65_1 := hfr65 1)); (try (try simp only [show (k25).sz = 2 from rfl, Nat.mul_one, Nat.add_zero] at hf65_1)); (try (try rw [show ((0 : Int)).toNat = 0 from rfl] at hf65_1)); (try (try simp only [Nat.reduceMul, Nat.zero_mul, Nat.zero_add, Nat.reduceAdd] at hf65_1)); (try (clear hcl65 hcc65 hfr65 hM65)))); refine store_event (t := 23) (p := 90) (v := ?vo_w66) (w1 := (wr.setCell ⟨go59, 1, none⟩ (.int .u64 1))) ?hg ?ho ?hn ?hr ?_; (case ho => rfl); (case hg => rfl); (case hn => rfl); (case hr => first | (go_simp; done) | (go_simp; rfl)); intro w66 hw; have hg : wr.grownBy w66 (some go59) := (by rw [hw]; exact HP65.2); have hp_ : Kd.R k25 25 w66 w.heap.size (fun k_ => some k_ ≠ (.slice Ao18 y182.length co18 : Value).ownBlock ∧ some k_ ≠ (.slice Ao64 t188.length co64 : Value).ownBlock ∧ k_ ≠ gb177) (.slice (some ⟨go59, 0, none⟩) t185.length co49) y195 := (by rw [hw, Ny195.out]; exact HP65.1); clear HP65; have n0_ := Aside0.mk (Kd.R_after (v := (.slice (some ⟨go59, 0, none⟩) t185.length co49)) (v1 := (.slice (some ⟨go59, 0, none⟩) t185.length co49)) (ok := (fun k_ => some k_ ≠ (.slice Ao64 t188.length co64 : Value).ownBlock ∧ k_ ≠ gb177)) (by (with_reducible repeat (first | apply Kd.R_alloc | apply Kd.R_drewN | apply Kd.R_drew)); exact Kd.R_mono HO_8.out (fun _ hk => ⟨⟨hk.2.1, hk.2.2⟩, hk.1⟩)) hg (.inl rfl)); have n1_ := Aside0.mk (hp_); have n2_ := Aside0.mk (Kd.R_after (v := (.slice (some ⟨go59, 0, none⟩) t185.length co49)) (v1 := (.slice (some ⟨go59, 0, none⟩) t185.length co49)) (ok := (fun k_ => some k_ ≠ (.slice Ao18 y182.length co18 : Value).ownBlock ∧ k_ ≠ gb177)) (by (with_reducible repeat (first | apply Kd.R_alloc | apply Kd.R_drewN | apply Kd.R_drew)); exact Kd.R_mono HO_10.out (fun _ hk => ⟨⟨hk.1, hk.2.2⟩, hk.2.1⟩)) hg (.inl rfl)); have n3_ := Aside0.mk (blk_grown (g := gb177) (o := .cells #[.int .u64 a2_0, .int .u64 a2_1] 25 (0, 0)) (by (with_reducible repeat (first | refine blk_drewN ?_ _ | refine blk_drew ?_ | refine blk_alloc ?_ _)); exact BK177.out) hg (Kd.R_away HO_9.out (fun _ hk => hk.2.2))); have n4_ := Aside0.mk ((by rw [hw]; exact below_set (HB.out) GB59.out : Below w.heap.size w w66)); clear HO_8; clear HO_9; clear HO_10; clear BK177; clear HB; have HO_8 := n0_; have HO_9 := n1_; have HO_10 := n2_; have BK177 := n3_; have HB := n4_; clear n0_ n1_ n2_ n3_ n4_; clear hg hw hp_; have p61 : 0 ≤ (0 : Int) := (by omega); have q61 : (0 : Int) < ((t188.length : Int) : Int) := of_decide_eq_true (by first | (with_reducible assumption) | assumption); have qi61 : (0 < t188.length) = True := eq_true (by omega); obtain ⟨go61, co61, eo61, gb61, gl61, cl61, HG61⟩ := Kd.R_form HO_10.out (by omega); (first | cases eo61 | (injection eo61 with ea_ en_ ec_; (first | subst ea_ | (injection ea_ with ea_; subst ea_)); subst ec_; clear en_)); have GB61 := Aside0.mk gb61; have GG61 := Aside0.mk HG61; clear gb61 gl61 HG61; obtain ⟨ce61, hcl61, hM61, hcc61, hfr61⟩ := Kd.R_elem HO_10.out z25 (0 : Int) p61 q61; obtain rfl := k25_openM hM61; have hx61_0 : w66.cell? ⟨go61, (0 : Int).toNat * 2, none⟩ = some (.int .u64 ((rd_T25 t188 0).f0)) := hcc61 0 _ rfl; have hx61_1 : w66.cell? ⟨go61, (0 : Int).toNat * 2 + 1, none⟩ = some (.int .u64 ((rd_T25 t188 0).f1)) := hcc61 1 _ rfl; have hf61_0 : w66.frozen? ⟨go61, (0 : Int).toNat * 2, none⟩ = false := hfr61 0; have hf61_1 : w66.frozen? ⟨go61, (0 : Int).toNat * 2 + 1, none⟩ = false := hfr61 1; clear hcl61 hcc61 hfr61 hM61; (try rw [show ((0 : Int)).toNat = 0 from rfl] at hx61_0); (try simp only [Nat.reduceMul, Nat.zero_mul, Nat.zero_add, Nat.reduceAdd] at hx61_0); (try rw [show ((0 : Int)).toNat = 0 from rfl] at hf61_0); (try simp only [Nat.reduceMul, Nat.zero_mul, Nat.zero_add, Nat.reduceAdd] at hf61_0); (try rw [show ((0 : Int)).toNat = 0 from rfl] at hx61_1); (try simp only [Nat.reduceMul, Nat.zero_mul, Nat.zero_add, Nat.reduceAdd] at hx61_1); (try rw [show ((0 : Int)).toNat = 0 from rfl] at hf61_1); (try simp only [Nat.reduceMul, Nat.zero_mul, Nat.zero_add, Nat.reduceAdd] at hf61_1); replace p61 := eq_true p61; replace q61 := eq_true q61; have n_ := Aside0.mk (Kd.R_mono (ok' := (fun k_ => some k_ ≠ (.slice Ao18 y182.length co18 : Value).ownBlock ∧ some k_ ≠ (.slice (some ⟨go59, 0, none⟩) t185.length co49 : Value).ownBlock ∧ k_ ≠ gb177)) HO_10.out (fun k_ hk => ⟨hk.1.1, ⟨hk.2, hk.1.2⟩⟩)); clear HO_10; have HO_10 := n_; clear n_; have HX67 := Aside0.mk (show Kd.R k25 25 w66 w.heap.size (fun k_ => some k_ ≠ (.slice Ao18 y182.length co18 : Value).ownBlock ∧ some k_ ≠ (.slice (some ⟨go59, 0, none⟩) t185.length co49 : Value).ownBlock ∧ k_ ≠ gb177) (.slice (some ⟨go61, 0, none⟩) t188.length co64) t188 from (by (with_reducible repeat (first | apply Kd.R_alloc | apply Kd.R_drewN | apply Kd.R_drew)); exact HO_10.out)); obtain ⟨ce67, hcl67, hM67, hcc67, hfr67⟩ := Kd.R_elem HX67.out z25 (0 : Int) (by omega) (by have h_ : (0 : Int) < ((t188.length : Int) : Int) := of_decide_eq_true (by first | (with_reducible assumption) | assumption); first | exact h_ | (have e_ := (Kd.R_reads' HO_10.out).1; omega) | simpa using h_); obtain rfl := k25_openM hM67; have HP67 := Kd.R_seg HX67.out (0 : Int) (by omega) (by have h_ : (0 : Int) < ((t188.length : Int) : Int) := of_decide_eq_true (by first | (with_reducible assumption) | assumption); first | exact h_ | (have e_ := (Kd.R_reads' HO_10.out).1; omega) | simpa using h_) (seg := [.int .u64 1]) (j := 1) hcl67 hcc67 (show 2 ≤ 2 from by decide) (x' := (⟨(rd_T25 t188 0).f0, 1⟩ : S25)) (k25_mkM _ _ _ (⟨(rd_T25 t188 0).f0, 1⟩ : S25) ) (fun _ hk => hk); have hx67_1 := hcc67 1 _ rfl; (try simp only [show (k25).sz = 2 from rfl, Nat.mul_one, Nat.add_zero] at hx67_1); (try rw [show ((0 : Int)).toNat = 0 from rfl] at hx67_1); (try simp only [Nat.reduceMul, Nat.zero_mul, Nat.zero_add, Nat.reduceAdd] at hx67_1); have hf67_1 := hfr67 1; (try simp only [show (k25).sz = 2 from rfl, Nat.mul_one, Nat.add_zero] at hf67_1); (try rw [show ((0 : Int)).toNat = 0 from rfl] at hf67_1); (try simp only [Nat.reduceMul, Nat.zero_mul, Nat.zero_add, Nat.reduceAdd] at hf67_1); clear hcl67 hcc67 hfr67 hM67) | ((with_reducible refine gate_store (t := 23) (p := 93) rfl ?_); (try (rw [drewN_self w66]; generalize hq_ : World.drewN w66 _ = w66; have n0_ := Aside0.mk (Kd.R_at hq_ HO_8.out); have n1_ := Aside0.mk (Kd.R_at hq_ HO_9.out); have n2_ := Aside0.mk (Kd.R_at hq_ HO_10.out); have n3_ := Aside0.mk (blk_at hq_ BK177.out); have n4_ := Aside0.mk (below_at hq_ HB.out); clear hq_ HO_8 HO_9 HO_10 BK177 HB; have HO_8 := n0_; have HO_9 := n1_; have HO_10 := n2_; have BK177 := n3_; have HB := n4_; clear n0_ n1_ n2_ n3_ n4_; (try (have n_ := Aside0.mk (Kd.R_mono (ok' := (fun k_ => some k_ ≠ (.slice Ao18 y182.length co18 : Value).ownBlock ∧ some k_ ≠ (.slice (some ⟨go59, 0, none⟩) t185.length co49 : Value).ownBlock ∧ k_ ≠ gb177)) HO_10.out (fun k_ hk => ⟨hk.1.1, ⟨hk.2, hk.1.2⟩⟩)); clear HO_10; have HO_10 := n_; clear n_)); (try (have HX67 := Aside0.mk (show Kd.R k25 25 w66 w.heap.size (fun k_ => some k_ ≠ (.slice Ao18 y182.length co18 : Value).ownBlock ∧ some k_ ≠ (.slice (some ⟨go59, 0, none⟩) t185.length co49 : Value).ownBlock ∧ k_ ≠ gb177) (.slice (some ⟨go61, 0, none⟩) t188.length co64) t188 from (by (with_reducible repeat (first | apply Kd.R_alloc | apply Kd.R_drewN | apply Kd.R_drew)); exact HO_10.out)))); (try (obtain ⟨ce67, hcl67, hM67, hcc67, hfr67⟩ := Kd.R_elem HX67.out z25 (0 : Int) (by omega) (by have h_ : (0 : Int) < ((t188.length : Int) : Int) := of_decide_eq_true (by first | (with_reducible assumption) | assumption); first | exact h_ | (have e_ := (Kd.R_reads' HO_10.out).1; omega) | simpa using h_))); (try (obtain rfl := k25_openM hM67)); (try (have HP67 := Kd.R_seg HX67.out (0 : Int) (by omega) (by have h_ : (0 : Int) < ((t188.length : Int) : Int) := of_decide_eq_true (by first | (with_reducible assumption) | assumption); first | exact h_ | (have e_ := (Kd.R_reads' HO_10.out).1; omega) | simpa using h_) (seg := [.int .u64 1]) (j := 1) hcl67 hcc67 (show 2 ≤ 2 from by decide) (x' := (⟨(rd_T25 t188 0).f0, 1⟩ : S25)) (k25_mkM _ _ _ (⟨(rd_T25 t188 0).f0, 1⟩ : S25) ) (fun _ hk => hk))); (try (have hx67_1 := hcc67 1 _ rfl)); (try (try simp only [show (k25).sz = 2 from rfl, Nat.mul_one, Nat.add_zero] at hx67_1)); (try (try rw [show ((0 : Int)).toNat = 0 from rfl] at hx67_1)); (try (try simp only [Nat.reduceMul, Nat.zero_mul, Nat.zero_add, Nat.reduceAdd] at hx67_1)); (try (have hf67_1 := hfr67 1)); (try (try simp only [show (k25).sz = 2 from rfl, Nat.mul_one, Nat.add_zero] at hf67_1)); (try (try rw [show ((0 : Int)).toNat = 0 from rfl] at hf67_1)); (try (try simp only [Nat.reduceMul, Nat.zero_mul, Nat.zero_add, Nat.reduceAdd] at hf67_1)); (try (clear hcl67 hcc67 hfr67 hM67)))); refine store_event (t := 23) (p := 93) (v := ?vo_w68) (w1 := (w66.setCell ⟨go61, 1, none⟩ (.int .u64 1))) ?hg ?ho ?hn ?hr ?_; (case ho => rfl); (case hg => rfl); (case hn => rfl); (case hr => first | (go_simp; done) | (go_simp; rfl)); intro w68 hw; have hg : w66.grownBy w68 (some go61) := (by rw [hw]; exact HP67.2); have hp_ : Kd.R k25 25 w68 w.heap.size (fun k_ => some k_ ≠ (.slice Ao18 y182.length co18 : Value).ownBlock ∧ some k_ ≠ (.slice (some ⟨go59, 0, none⟩) t185.length co49 : Value).ownBlock ∧ k_ ≠ gb177) (.slice (some ⟨go61, 0, none⟩) t188.length co64) y196 := (by rw [hw, Ny196.out]; exact HP67.1); clear HP67; have n0_ := Aside0.mk (Kd.R_after (v := (.slice (some ⟨go61, 0, none⟩) t188.length co64)) (v1 := (.slice (some ⟨go61, 0, none⟩) t188.length co64)) (ok := (fun k_ => some k_ ≠ (.slice (some ⟨go59, 0, none⟩) t185.length co49 : Value).ownBlock ∧ k_ ≠ gb177)) (by (with_reducible repeat (first | apply Kd.R_alloc | apply Kd.R_drewN | apply Kd.R_drew)); exact Kd.R_mono HO_8.out (fun _ hk => ⟨⟨hk.2, hk.1.2⟩, hk.1.1⟩)) hg (.inl rfl)); have n1_ := Aside0.mk (Kd.R_after (v := (.slice (some ⟨go61, 0, none⟩) t188.length co64)) (v1 := (.slice (some ⟨go61, 0, none⟩) t188.length co64)) (ok := (fun k_ => some k_ ≠ (.slice Ao18 y182.length co18 : Value).ownBlock ∧ k_ ≠ gb177)) (by (with_reducible repeat (first | apply Kd.R_alloc | apply Kd.R_drewN | apply Kd.R_drew)); exact Kd.R_mono HO_9.out (fun _ hk => ⟨⟨hk.1, hk.2.2⟩, hk.2.1⟩)) hg (.inl rfl)); have n2_ := Aside0.mk (hp_); have n3_ := Aside0.mk (blk_grown (g := gb177) (o := .cells #[.int .u64 a2_0, .int .u64 a2_1] 25 (0, 0)) (by (with_reducible repeat (first | refine blk_drewN ?_ _ | refine blk_drew ?_ | refine blk_alloc ?_ _)); exact BK177.out) hg (Kd.R_away HO_10.out (fun _ hk => hk.2.2))); have n4_ := Aside0.mk ((by rw [hw]; exact below_set (HB.out) GB61.out : Below w.heap.size w w68)); clear HO_8; clear HO_9; clear HO_10; clear BK177; clear HB; have HO_8 := n0_; have HO_9 := n1_; have HO_10 := n2_; have BK177 := n3_; have HB := n4_; clear n0_ n1_ n2_ n3_ n4_; clear hg hw hp_) | (go_at_call 9; (with_reducible refine (wigwagref02_Same.calls k3 _ _ y182 _ _ l0 t197 _ ?side1 ?side2 ?side3 ?side4 A62.out).mono ?_); (case side1 => repeat (first | exact (Kd.R_reads' HO_8.out).2.2 | (with_reducible refine Kd.C_alloc ?_ _) | (with_reducible refine Kd.C_drewN ?_ _) | (with_reducible refine Kd.C_drew ?_))); (case side2 => exact (Kd.R_reads' HO_8.out).2.1); (case side3 => repeat (first | exact (Kd.C_below HR0.out HB.out) | (with_reducible refine Kd.C_alloc ?_ _) | (with_reducible refine Kd.C_drewN ?_ _) | (with_reducible refine Kd.C_drew ?_))); (case side4 => exact HC0.out); rintro e w' ⟨rfl, ⟨nd, rfl⟩⟩; (try first | exact ⟨rfl, _, World.drewN_drewN _ _ _⟩ | exact ⟨rfl, _, Eq.trans (World.drewN_drewN _ _ _) (congrArg (World.drewN _) (Nat.add_assoc _ _ _))⟩)))
                            repeat (go_quiet (first | ((with_reducible refine gate_store (t := 23) (p := 90) rfl ?_); (try (rw [drewN_self wr]; generalize hq_ : World.drewN wr _ = wr; have n0_ := Aside0.mk (Kd.R_at hq_ HO_8.out); have n1_ := Aside0.mk (Kd.R_at hq_ HO_9.out); have n2_ := Aside0.mk (Kd.R_at hq_ HO_10.out); have n3_ := Aside0.mk (blk_at hq_ BK177.out); have n4_ := Aside0.mk (below_at hq_ HB.out); clear hq_ HO_8 HO_9 HO_10 BK177 HB; have HO_8 := n0_; have HO_9 := n1_; have HO_10 := n2_; have BK177 := n3_; have HB := n4_; clear n0_ n1_ n2_ n3_ n4_; (try (have HX65 := Aside0.mk (show Kd.R k25 25 wr w.heap.size (fun k_ => some k_ ≠ (.slice Ao18 y182.length co18 : Value).ownBlock ∧ some k_ ≠ (.slice Ao64 t188.length co64 : Value).ownBlock ∧ k_ ≠ gb177) (.slice (some ⟨go59, 0, none⟩) t185.length co49) t185 from (by (with_reducible repeat (first | apply Kd.R_alloc | apply Kd.R_drewN | apply Kd.R_drew)); exact HO_9.out)))); (try (obtain ⟨ce65, hcl65, hM65, hcc65, hfr65⟩ := Kd.R_elem HX65.out z25 (0 : Int) (by omega) (by have h_ : (0 : Int) < ((t185.length : Int) : Int) := of_decide_eq_true (by first | (with_reducible assumption) | assumption); first | exact h_ | (have e_ := (Kd.R_reads' HO_9.out).1; omega) | simpa using h_))); (try (obtain rfl := k25_openM hM65)); (try (have HP65 := Kd.R_seg HX65.out (0 : Int) (by omega) (by have h_ : (0 : Int) < ((t185.length : Int) : Int) := of_decide_eq_true (by first | (with_reducible assumption) | assumption); first | exact h_ | (have e_ := (Kd.R_reads' HO_9.out).1; omega) | simpa using h_) (seg := [.int .u64 1]) (j := 1) hcl65 hcc65 (show 2 ≤ 2 from by decide) (x' := (⟨(rd_T25 t185 0).f0, 1⟩ : S25)) (k25_mkM _ _ _ (⟨(rd_T25 t185 0).f0, 1⟩ : S25) ) (fun _ hk => hk))); (try (have hx65_1 := hcc65 1 _ rfl)); (try (try simp only [show (k25).sz = 2 from rfl, Nat.mul_one, Nat.add_zero] at hx65_1)); (try (try rw [show ((0 : Int)).toNat = 0 from rfl] at hx65_1)); (try (try simp only [Nat.reduceMul, Nat.zero_mul, Nat.zero_add, Nat.reduceAdd] at hx65_1)); (try (have hf65_1 := hfr65 1)); (try (try simp only [show (k25).sz = 2 from rfl, Nat.mul_one, Nat.add_zero] at hf65_1)); (try (try rw [show ((0 : Int)).toNat = 0 from rfl] at hf65_1)); (try (try simp only [Nat.reduceMul, Nat.zero_mul, Nat.zero_add, Nat.reduceAdd] at hf65_1)); (try (clear hcl65 hcc65 hfr65 hM65)))); refine store_event (t := 23) (p := 90) (v := ?vo_w66) (w1 := (wr.setCell ⟨go59, 1, none⟩ (.int .u64 1))) ?hg ?ho ?hn ?hr ?_; (case ho => rfl); (case hg => rfl); (case hn => rfl); (case hr => first | (go_simp; done) | (go_simp; rfl)); intro w66 hw; have hg : wr.grownBy w66 (some go59) := (by rw [hw]; exact HP65.2); have hp_ : Kd.R k25 25 w66 w.heap.size (fun k_ => some k_ ≠ (.slice Ao18 y182.length co18 : Value).ownBlock ∧ some k_ ≠ (.slice Ao64 t188.length co64 : Value).ownBlock ∧ k_ ≠ gb177) (.slice (some ⟨go59, 0, none⟩) t185.length co49) y195 := (by rw [hw, Ny195.out]; exact HP65.1); clear HP65; have n0_ := Aside0.mk (Kd.R_after (v := (.slice (some ⟨go59, 0, none⟩) t185.length co49)) (v1 := (.slice (some ⟨go59, 0, none⟩) t185.length co49)) (ok := (fun k_ => some k_ ≠ (.slice Ao64 t188.length co64 : Value).ownBlock ∧ k_ ≠ gb177)) (by (with_reducible repeat (first | apply Kd.R_alloc | apply Kd.R_drewN | apply Kd.R_drew)); exact Kd.R_mono HO_8.out (fun _ hk => ⟨⟨hk.2.1, hk.2.2⟩, hk.1⟩)) hg (.inl rfl)); have n1_ := Aside0.mk (hp_); have n2_ := Aside0.mk (Kd.R_after (v := (.slice (some ⟨go59, 0, none⟩) t185.length co49)) (v1 := (.slice (some ⟨go59, 0, none⟩) t185.length co49)) (ok := (fun k_ => some k_ ≠ (.slice Ao18 y182.length co18 : Value).ownBlock ∧ k_ ≠ gb177)) (by (with_reducible repeat (first | apply Kd.R_alloc | apply Kd.R_drewN | apply Kd.R_drew)); exact Kd.R_mono HO_10.out (fun _ hk => ⟨⟨hk.1, hk.2.2⟩, hk.2.1⟩)) hg (.inl rfl)); have n3_ := Aside0.mk (blk_grown (g := gb177) (o := .cells #[.int .u64 a2_0, .int .u64 a2_1] 25 (0, 0)) (by (with_reducible repeat (first | refine blk_drewN ?_ _ | refine blk_drew ?_ | refine blk_alloc ?_ _)); exact BK177.out) hg (Kd.R_away HO_9.out (fun _ hk => hk.2.2))); have n4_ := Aside0.mk ((by rw [hw]; exact below_set (HB.out) GB59.out : Below w.heap.size w w66)); clear HO_8; clear HO_9; clear HO_10; clear BK177; clear HB; have HO_8 := n0_; have HO_9 := n1_; have HO_10 := n2_; have BK177 := n3_; have HB := n4_; clear n0_ n1_ n2_ n3_ n4_; clear hg hw hp_; have p61 : 0 ≤ (0 : Int) := (by omega); have q61 : (0 : Int) < ((t188.length : Int) : Int) := of_decide_eq_true (by first | (with_reducible assumption) | assumption); have qi61 : (0 < t188.length) = True := eq_true (by omega); obtain ⟨go61, co61, eo61, gb61, gl61, cl61, HG61⟩ := Kd.R_form HO_10.out (by omega); (first | cases eo61 | (injection eo61 with ea_ en_ ec_; (first | subst ea_ | (injection ea_ with ea_; subst ea_)); subst ec_; clear en_)); have GB61 := Aside0.mk gb61; have GG61 := Aside0.mk HG61; clear gb61 gl61 HG61; obtain ⟨ce61, hcl61, hM61, hcc61, hfr61⟩ := Kd.R_elem HO_10.out z25 (0 : Int) p61 q61; obtain rfl := k25_openM hM61; have hx61_0 : w66.cell? ⟨go61, (0 : Int).toNat * 2, none⟩ = some (.int .u64 ((rd_T25 t188 0).f0)) := hcc61 0 _ rfl; have hx61_1 : w66.cell? ⟨go61, (0 : Int).toNat * 2 + 1, none⟩ = some (.int .u64 ((rd_T25 t188 0).f1)) := hcc61 1 _ rfl; have hf61_0 : w66.frozen? ⟨go61, (0 : Int).toNat * 2, none⟩ = false := hfr61 0; have hf61_1 : w66.frozen? ⟨go61, (0 : Int).toNat * 2 + 1, none⟩ = false := hfr61 1; clear hcl61 hcc61 hfr61 hM61; (try rw [show ((0 : Int)).toNat = 0 from rfl] at hx61_0); (try simp only [Nat.reduceMul, Nat.zero_mul, Nat.zero_add, Nat.reduceAdd] at hx61_0); (try rw [show ((0 : Int)).toNat = 0 from rfl] at hf61_0); (try simp only [Nat.reduceMul, Nat.zero_mul, Nat.zero_add, Nat.reduceAdd] at hf61_0); (try rw [show ((0 : Int)).toNat = 0 from rfl] at hx61_1); (try simp only [Nat.reduceMul, Nat.zero_mul, Nat.zero_add, Nat.reduceAdd] at hx61_1); (try rw [show ((0 : Int)).toNat = 0 from rfl] at hf61_1); (try simp only [Nat.reduceMul, Nat.zero_mul, Nat.zero_add, Nat.reduceAdd] at hf61_1); replace p61 := eq_true p61; replace q61 := eq_true q61; have n_ := Aside0.mk (Kd.R_mono (ok' := (fun k_ => some k_ ≠ (.slice Ao18 y182.length co18 : Value).ownBlock ∧ some k_ ≠ (.slice (some ⟨go59, 0, none⟩) t185.length co49 : Value).ownBlock ∧ k_ ≠ gb177)) HO_10.out (fun k_ hk => ⟨hk.1.1, ⟨hk.2, hk.1.2⟩⟩)); clear HO_10; have HO_10 := n_; clear n_; have HX67 := Aside0.mk (show Kd.R k25 25 w66 w.heap.size (fun k_ => some k_ ≠ (.slice Ao18 y182.length co18 : Value).ownBlock ∧ some k_ ≠ (.slice (some ⟨go59, 0, none⟩) t185.length co49 : Value).ownBlock ∧ k_ ≠ gb177) (.slice (some ⟨go61, 0, none⟩) t188.length co64) t188 from (by (with_reducible repeat (first | apply Kd.R_alloc | apply Kd.R_drewN | apply Kd.R_drew)); exact HO_10.out)); obtain ⟨ce67, hcl67, hM67, hcc67, hfr67⟩ := Kd.R_elem HX67.out z25 (0 : Int) (by omega) (by have h_ : (0 : Int) < ((t188.length : Int) : Int) := of_decide_eq_true (by first | (with_reducible assumption) | assumption); first | exact h_ | (have e_ := (Kd.R_reads' HO_10.out).1; omega) | simpa using h_); obtain rfl := k25_openM hM67; have HP67 := Kd.R_seg HX67.out (0 : Int) (by omega) (by have h_ : (0 : Int) < ((t188.length : Int) : Int) := of_decide_eq_true (by first | (with_reducible assumption) | assumption); first | exact h_ | (have e_ := (Kd.R_reads' HO_10.out).1; omega) | simpa using h_) (seg := [.int .u64 1]) (j := 1) hcl67 hcc67 (show 2 ≤ 2 from by decide) (x' := (⟨(rd_T25 t188 0).f0, 1⟩ : S25)) (k25_mkM _ _ _ (⟨(rd_T25 t188 0).f0, 1⟩ : S25) ) (fun _ hk => hk); have hx67_1 := hcc67 1 _ rfl; (try simp only [show (k25).sz = 2 from rfl, Nat.mul_one, Nat.add_zero] at hx67_1); (try rw [show ((0 : Int)).toNat = 0 from rfl] at hx67_1); (try simp only [Nat.reduceMul, Nat.zero_mul, Nat.zero_add, Nat.reduceAdd] at hx67_1); have hf67_1 := hfr67 1; (try simp only [show (k25).sz = 2 from rfl, Nat.mul_one, Nat.add_zero] at hf67_1); (try rw [show ((0 : Int)).toNat = 0 from rfl] at hf67_1); (try simp only [Nat.reduceMul, Nat.zero_mul, Nat.zero_add, Nat.reduceAdd] at hf67_1); clear hcl67 hcc67 hfr67 hM67) | ((with_reducible refine gate_store (t := 23) (p := 93) rfl ?_); (try (rw [drewN_self w66]; generalize hq_ : World.drewN w66 _ = w66; have n0_ := Aside0.mk (Kd.R_at hq_ HO_8.out); have n1_ := Aside0.mk (Kd.R_at hq_ HO_9.out); have n2_ := Aside0.mk (Kd.R_at hq_ HO_10.out); have n3_ := Aside0.mk (blk_at hq_ BK177.out); have n4_ := Aside0.mk (below_at hq_ HB.out); clear hq_ HO_8 HO_9 HO_10 BK177 HB; have HO_8 := n0_; have HO_9 := n1_; have HO_10 := n2_; have BK177 := n3_; have HB := n4_; clear n0_ n1_ n2_ n3_ n4_; (try (have n_ := Aside0.mk (Kd.R_mono (ok' := (fun k_ => some k_ ≠ (.slice Ao18 y182.length co18 : Value).ownBlock ∧ some k_ ≠ (.slice (some ⟨go59, 0, none⟩) t185.length co49 : Value).ownBlock ∧ k_ ≠ gb177)) HO_10.out (fun k_ hk => ⟨hk.1.1, ⟨hk.2, hk.1.2⟩⟩)); clear HO_10; have HO_10 := n_; clear n_)); (try (have HX67 := Aside0.mk (show Kd.R k25 25 w66 w.heap.size (fun k_ => some k_ ≠ (.slice Ao18 y182.length co18 : Value).ownBlock ∧ some k_ ≠ (.slice (some ⟨go59, 0, none⟩) t185.length co49 : Value).ownBlock ∧ k_ ≠ gb177) (.slice (some ⟨go61, 0, none⟩) t188.length co64) t188 from (by (with_reducible repeat (first | apply Kd.R_alloc | apply Kd.R_drewN | apply Kd.R_drew)); exact HO_10.out)))); (try (obtain ⟨ce67, hcl67, hM67, hcc67, hfr67⟩ := Kd.R_elem HX67.out z25 (0 : Int) (by omega) (by have h_ : (0 : Int) < ((t188.length : Int) : Int) := of_decide_eq_true (by first | (with_reducible assumption) | assumption); first | exact h_ | (have e_ := (Kd.R_reads' HO_10.out).1; omega) | simpa using h_))); (try (obtain rfl := k25_openM hM67)); (try (have HP67 := Kd.R_seg HX67.out (0 : Int) (by omega) (by have h_ : (0 : Int) < ((t188.length : Int) : Int) := of_decide_eq_true (by first | (with_reducible assumption) | assumption); first | exact h_ | (have e_ := (Kd.R_reads' HO_10.out).1; omega) | simpa using h_) (seg := [.int .u64 1]) (j := 1) hcl67 hcc67 (show 2 ≤ 2 from by decide) (x' := (⟨(rd_T25 t188 0).f0, 1⟩ : S25)) (k25_mkM _ _ _ (⟨(rd_T25 t188 0).f0, 1⟩ : S25) ) (fun _ hk => hk))); (try (have hx67_1 := hcc67 1 _ rfl)); (try (try simp only [show (k25).sz = 2 from rfl, Nat.mul_one, Nat.add_zero] at hx67_1)); (try (try rw [show ((0 : Int)).toNat = 0 from rfl] at hx67_1)); (try (try simp only [Nat.reduceMul, Nat.zero_mul, Nat.zero_add, Nat.reduceAdd] at hx67_1)); (try (have hf67_1 := hfr67 1)); (try (try simp only [show (k25).sz = 2 from rfl, Nat.mul_one, Nat.add_zero] at hf67_1)); (try (try rw [show ((0 : Int)).toNat = 0 from rfl] at hf67_1)); (try (try simp only [Nat.reduceMul, Nat.zero_mul, Nat.zero_add, Nat.reduceAdd] at hf67_1)); (try (clear hcl67 hcc67 hfr67 hM67)))); refine store_event (t := 23) (p := 93) (v := ?vo_w68) (w1 := (w66.setCell ⟨go61, 1, none⟩ (.int .u64 1))) ?hg ?ho ?hn ?hr ?_; (case ho => rfl); (case hg => rfl); (case hn => rfl); (case hr => first | (go_simp; done) | (go_simp; rfl)); intro w68 hw; have hg : w66.grownBy w68 (some go61) := (by rw [hw]; exact HP67.2); have hp_ : Kd.R k25 25 w68 w.heap.size (fun k_ => some k_ ≠ (.slice Ao18 y182.length co18 : Value).ownBlock ∧ some k_ ≠ (.slice (some ⟨go59, 0, none⟩) t185.length co49 : Value).ownBlock ∧ k_ ≠ gb177) (.slice (some ⟨go61, 0, none⟩) t188.length co64) y196 := (by rw [hw, Ny196.out]; exact HP67.1); clear HP67; have n0_ := Aside0.mk (Kd.R_after (v := (.slice (some ⟨go61, 0, none⟩) t188.length co64)) (v1 := (.slice (some ⟨go61, 0, none⟩) t188.length co64)) (ok := (fun k_ => some k_ ≠ (.slice (some ⟨go59, 0, none⟩) t185.length co49 : Value).ownBlock ∧ k_ ≠ gb177)) (by (with_reducible repeat (first | apply Kd.R_alloc | apply Kd.R_drewN | apply Kd.R_drew)); exact Kd.R_mono HO_8.out (fun _ hk => ⟨⟨hk.2, hk.1.2⟩, hk.1.1⟩)) hg (.inl rfl)); have n1_ := Aside0.mk (Kd.R_after (v := (.slice (some ⟨go61, 0, none⟩) t188.length co64)) (v1 := (.slice (some ⟨go61, 0, none⟩) t188.length co64)) (ok := (fun k_ => some k_ ≠ (.slice Ao18 y182.length co18 : Value).ownBlock ∧ k_ ≠ gb177)) (by (with_reducible repeat (first | apply Kd.R_alloc | apply Kd.R_drewN | apply Kd.R_drew)); exact Kd.R_mono HO_9.out (fun _ hk => ⟨⟨hk.1, hk.2.2⟩, hk.2.1⟩)) hg (.inl rfl)); have n2_ := Aside0.mk (hp_); have n3_ := Aside0.mk (blk_grown (g := gb177) (o := .cells #[.int .u64 a2_0, .int .u64 a2_1] 25 (0, 0)) (by (with_reducible repeat (first | refine blk_drewN ?_ _ | refine blk_drew ?_ | refine blk_alloc ?_ _)); exact BK177.out) hg (Kd.R_away HO_10.out (fun _ hk => hk.2.2))); have n4_ := Aside0.mk ((by rw [hw]; exact below_set (HB.out) GB61.out : Below w.heap.size w w68)); clear HO_8; clear HO_9; clear HO_10; clear BK177; clear HB; have HO_8 := n0_; have HO_9 := n1_; have HO_10 := n2_; have BK177 := n3_; have HB := n4_; clear n0_ n1_ n2_ n3_ n4_; clear hg hw hp_) | (go_at_call 9; (with_reducible refine (wigwagref02_Same.calls k3 _ _ y182 _ _ l0 t197 _ ?side1 ?side2 ?side3 ?side4 A62.out).mono ?_); (case side1 => repeat (first | exact (Kd.R_reads' HO_8.out).2.2 | (with_reducible refine Kd.C_alloc ?_ _) | (with_reducible refine Kd.C_drewN ?_ _) | (with_reducible refine Kd.C_drew ?_))); (case side2 => exact (Kd.R_reads' HO_8.out).2.1); (case side3 => repeat (first | exact (Kd.C_below HR0.out HB.out) | (with_reducible refine Kd.C_alloc ?_ _) | (with_reducible refine Kd.C_drewN ?_ _) | (with_reducible refine Kd.C_drew ?_))); (case side4 => exact HC0.out); rintro e w' ⟨rfl, ⟨nd, rfl⟩⟩; (try first | exact ⟨rfl, _, World.drewN_drewN _ _ _⟩ | exact ⟨rfl, _, Eq.trans (World.drewN_drewN _ _ _) (congrArg (World.drewN _) (Nat.add_assoc _ _ _))⟩))); go_upto_region 22 with (first | ((with_reducible refine gate_store (t := 23) (p := 90) rfl ?_); (try (rw [drewN_self wr]; generalize hq_ : World.drewN wr _ = wr; have n0_ := Aside0.mk (Kd.R_at hq_ HO_8.out); have n1_ := Aside0.mk (Kd.R_at hq_ HO_9.out); have n2_ := Aside0.mk (Kd.R_at hq_ HO_10.out); have n3_ := Aside0.mk (blk_at hq_ BK177.out); have n4_ := Aside0.mk (below_at hq_ HB.out); clear hq_ HO_8 HO_9 HO_10 BK177 HB; have HO_8 := n0_; have HO_9 := n1_; have HO_10 := n2_; have BK177 := n3_; have HB := n4_; clear n0_ n1_ n2_ n3_ n4_; (try (have HX65 := Aside0.mk (show Kd.R k25 25 wr w.heap.size (fun k_ => some k_ ≠ (.slice Ao18 y182.length co18 : Value).ownBlock ∧ some k_ ≠ (.slice Ao64 t188.length co64 : Value).ownBlock ∧ k_ ≠ gb177) (.slice (some ⟨go59, 0, none⟩) t185.length co49) t185 from (by (with_reducible repeat (first | apply Kd.R_alloc | apply Kd.R_drewN | apply Kd.R_drew)); exact HO_9.out)))); (try (obtain ⟨ce65, hcl65, hM65, hcc65, hfr65⟩ := Kd.R_elem HX65.out z25 (0 : Int) (by omega) (by have h_ : (0 : Int) < ((t185.length : Int) : Int) := of_decide_eq_true (by first | (with_reducible assumption) | assumption); first | exact h_ | (have e_ := (Kd.R_reads' HO_9.out).1; omega) | simpa using h_))); (try (obtain rfl := k25_openM hM65)); (try (have HP65 := Kd.R_seg HX65.out (0 : Int) (by omega) (by have h_ : (0 : Int) < ((t185.length : Int) : Int) := of_decide_eq_true (by first | (with_reducible assumption) | assumption); first | exact h_ | (have e_ := (Kd.R_reads' HO_9.out).1; omega) | simpa using h_) (seg := [.int .u64 1]) (j := 1) hcl65 hcc65 (show 2 ≤ 2 from by decide) (x' := (⟨(rd_T25 t185 0).f0, 1⟩ : S25)) (k25_mkM _ _ _ (⟨(rd_T25 t185 0).f0, 1⟩ : S25) ) (fun _ hk => hk))); (try (have hx65_1 := hcc65 1 _ rfl)); (try (try simp only [show (k25).sz = 2 from rfl, Nat.mul_one, Nat.add_zero] at hx65_1)); (try (try rw [show ((0 : Int)).toNat = 0 from rfl] at hx65_1)); (try (try simp only [Nat.reduceMul, Nat.zero_mul, Nat.zero_add, Nat.reduceAdd] at hx65_1)); (try (have hf65_1 := hfr65 1)); (try (try simp only [show (k25).sz = 2 from rfl, Nat.mul_one, Nat.add_zero] at hf65_1)); (try (try rw [show ((0 : Int)).toNat = 0 from rfl] at hf65_1)); (try (try simp only [Nat.reduceMul, Nat.zero_mul, Nat.zero_add, Nat.reduceAdd] at hf65_1)); (try (clear hcl65 hcc65 hfr65 hM65)))); refine store_event (t := 23) (p := 90) (v := ?vo_w66) (w1 := (wr.setCell ⟨go59, 1, none⟩ (.int .u64 1))) ?hg ?ho ?hn ?hr ?_; (case ho => rfl); (case hg => rfl); (case hn => rfl); (case hr => first | (go_simp; done) | (go_simp; rfl)); intro w66 hw; have hg : wr.grownBy w66 (some go59) := (by rw [hw]; exact HP65.2); have hp_ : Kd.R k25 25 w66 w.heap.size (fun k_ => some k_ ≠ (.slice Ao18 y182.length co18 : Value).ownBlock ∧ some k_ ≠ (.slice Ao64 t188.length co64 : Value).ownBlock ∧ k_ ≠ gb177) (.slice (some ⟨go59, 0, none⟩) t185.length co49) y195 := (by rw [hw, Ny195.out]; exact HP65.1); clear HP65; have n0_ := Aside0.mk (Kd.R_after (v := (.slice (some ⟨go59, 0, none⟩) t185.length co49)) (v1 := (.slice (some ⟨go59, 0, none⟩) t185.length co49)) (ok := (fun k_ => some k_ ≠ (.slice Ao64 t188.length co64 : Value).ownBlock ∧ k_ ≠ gb177)) (by (with_reducible repeat (first | apply Kd.R_alloc | apply Kd.R_drewN | apply Kd.R_drew)); exact Kd.R_mono HO_8.out (fun _ hk => ⟨⟨hk.2.1, hk.2.2⟩, hk.1⟩)) hg (.inl rfl)); have n1_ := Aside0.mk (hp_); have n2_ := Aside0.mk (Kd.R_after (v := (.slice (some ⟨go59, 0, none⟩) t185.length co49)) (v1 := (.slice (some ⟨go59, 0, none⟩) t185.length co49)) (ok := (fun k_ => some k_ ≠ (.slice Ao18 y182.length co18 : Value).ownBlock ∧ k_ ≠ gb177)) (by (with_reducible repeat (first | apply Kd.R_alloc | apply Kd.R_drewN | apply Kd.R_drew)); exact Kd.R_mono HO_10.out (fun _ hk => ⟨⟨hk.1, hk.2.2⟩, hk.2.1⟩)) hg (.inl rfl)); have n3_ := Aside0.mk (blk_grown (g := gb177) (o := .cells #[.int .u64 a2_0, .int .u64 a2_1] 25 (0, 0)) (by (with_reducible repeat (first | refine blk_drewN ?_ _ | refine blk_drew ?_ | refine blk_alloc ?_ _)); exact BK177.out) hg (Kd.R_away HO_9.out (fun _ hk => hk.2.2))); have n4_ := Aside0.mk ((by rw [hw]; exact below_set (HB.out) GB59.out : Below w.heap.size w w66)); clear HO_8; clear HO_9; clear HO_10; clear BK177; clear HB; have HO_8 := n0_; have HO_9 := n1_; have HO_10 := n2_; have BK177 := n3_; have HB := n4_; clear n0_ n1_ n2_ n3_ n4_; clear hg hw hp_; have p61 : 0 ≤ (0 : Int) := (by omega); have q61 : (0 : Int) < ((t188.length : Int) : Int) := of_decide_eq_true (by first | (with_reducible assumption) | assumption); have qi61 : (0 < t188.length) = True := eq_true (by omega); obtain ⟨go61, co61, eo61, gb61, gl61, cl61, HG61⟩ := Kd.R_form HO_10.out (by omega); (first | cases eo61 | (injection eo61 with ea_ en_ ec_; (first | subst ea_ | (injection ea_ with ea_; subst ea_)); subst ec_; clear en_)); have GB61 := Aside0.mk gb61; have GG61 := Aside0.mk HG61; clear gb61 gl61 HG61; obtain ⟨ce61, hcl61, hM61, hcc61, hfr61⟩ := Kd.R_elem HO_10.out z25 (0 : Int) p61 q61; obtain rfl := k25_openM hM61; have hx61_0 : w66.cell? ⟨go61, (0 : Int).toNat * 2, none⟩ = some (.int .u64 ((rd_T25 t188 0).f0)) := hcc61 0 _ rfl; have hx61_1 : w66.cell? ⟨go61, (0 : Int).toNat * 2 + 1, none⟩ = some (.int .u64 ((rd_T25 t188 0).f1)) := hcc61 1 _ rfl; have hf61_0 : w66.frozen? ⟨go61, (0 : Int).toNat * 2, none⟩ = false := hfr61 0; have hf61_1 : w66.frozen? ⟨go61, (0 : Int).toNat * 2 + 1, none⟩ = false := hfr61 1; clear hcl61 hcc61 hfr61 hM61; (try rw [show ((0 : Int)).toNat = 0 from rfl] at hx61_0); (try simp only [Nat.reduceMul, Nat.zero_mul, Nat.zero_add, Nat.reduceAdd] at hx61_0); (try rw [show ((0 : Int)).toNat = 0 from rfl] at hf61_0); (try simp only [Nat.reduceMul, Nat.zero_mul, Nat.zero_add, Nat.reduceAdd] at hf61_0); (try rw [show ((0 : Int)).toNat = 0 from rfl] at hx61_1); (try simp only [Nat.reduceMul, Nat.zero_mul, Nat.zero_add, Nat.reduceAdd] at hx61_1); (try rw [show ((0 : Int)).toNat = 0 from rfl] at hf61_1); (try simp only [Nat.reduceMul, Nat.zero_mul, Nat.zero_add, Nat.reduceAdd] at hf61_1); replace p61 := eq_true p61; replace q61 := eq_true q61; have n_ := Aside0.mk (Kd.R_mono (ok' := (fun k_ => some k_ ≠ (.slice Ao18 y182.length co18 : Value).ownBlock ∧ some k_ ≠ (.slice (some ⟨go59, 0, none⟩) t185.length co49 : Value).ownBlock ∧ k_ ≠ gb177)) HO_10.out (fun k_ hk => ⟨hk.1.1, ⟨hk.2, hk.1.2⟩⟩)); clear HO_10; have HO_10 := n_; clear n_; have HX67 := Aside0.mk (show Kd.R k25 25 w66 w.heap.size (fun k_ => some k_ ≠ (.slice Ao18 y182.length co18 : Value).ownBlock ∧ some k_ ≠ (.slice (some ⟨go59, 0, none⟩) t185.length co49 : Value).ownBlock ∧ k_ ≠ gb177) (.slice (some ⟨go61, 0, none⟩) t188.length co64) t188 from (by (with_reducible repeat (first | apply Kd.R_alloc | apply Kd.R_drewN | apply Kd.R_drew)); exact HO_10.out)); obtain ⟨ce67, hcl67, hM67, hcc67, hfr67⟩ := Kd.R_elem HX67.out z25 (0 : Int) (by omega) (by have h_ : (0 : Int) < ((t188.length : Int) : Int) := of_decide_eq_true (by first | (with_reducible assumption) | assumption); first | exact h_ | (have e_ := (Kd.R_reads' HO_10.out).1; omega) | simpa using h_); obtain rfl := k25_openM hM67; have HP67 := Kd.R_seg HX67.out (0 : Int) (by omega) (by have h_ : (0 : Int) < ((t188.length : Int) : Int) := of_decide_eq_true (by first | (with_reducible assumption) | assumption); first | exact h_ | (have e_ := (Kd.R_reads' HO_10.out).1; omega) | simpa using h_) (seg := [.int .u64 1]) (j := 1) hcl67 hcc67 (show 2 ≤ 2 from by decide) (x' := (⟨(rd_T25 t188 0).f0, 1⟩ : S25)) (k25_mkM _ _ _ (⟨(rd_T25 t188 0).f0, 1⟩ : S25) ) (fun _ hk => hk); have hx67_1 := hcc67 1 _ rfl; (try simp only [show (k25).sz = 2 from rfl, Nat.mul_one, Nat.add_zero] at hx67_1); (try rw [show ((0 : Int)).toNat = 0 from rfl] at hx67_1); (try simp only [Nat.reduceMul, Nat.zero_mul, Nat.zero_add, Nat.reduceAdd] at hx67_1); have hf67_1 := hfr67 1; (try simp only [show (k25).sz = 2 from rfl, Nat.mul_one, Nat.add_zero] at hf67_1); (try rw [show ((0 : Int)).toNat = 0 from rfl] at hf67_1); (try simp only [Nat.reduceMul, Nat.zero_mul, Nat.zero_add, Nat.reduceAdd] at hf67_1); clear hcl67 hcc67 hfr67 hM67) | ((with_reducible refine gate_store (t := 23) (p := 93) rfl ?_); (try (rw [drewN_self w66]; generalize hq_ : World.drewN w66 _ = w66; have n0_ := Aside0.mk (Kd.R_at hq_ HO_8.out); have n1_ := Aside0.mk (Kd.R_at hq_ HO_9.out); have n2_ := Aside0.mk (Kd.R_at hq_ HO_10.out); have n3_ := Aside0.mk (blk_at hq_ BK177.out); have n4_ := Aside0.mk (below_at hq_ HB.out); clear hq_ HO_8 HO_9 HO_10 BK177 HB; have HO_8 := n0_; have HO_9 := n1_; have HO_10 := n2_; have BK177 := n3_; have HB := n4_; clear n0_ n1_ n2_ n3_ n4_; (try (have n_ := Aside0.mk (Kd.R_mono (ok' := (fun k_ => some k_ ≠ (.slice Ao18 y182.length co18 : Value).ownBlock ∧ some k_ ≠ (.slice (some ⟨go59, 0, none⟩) t185.length co49 : Value).ownBlock ∧ k_ ≠ gb177)) HO_10.out (fun k_ hk => ⟨hk.1.1, ⟨hk.2, hk.1.2⟩⟩)); clear HO_10; have HO_10 := n_; clear n_)); (try (have HX67 := Aside0.mk (show Kd.R k25 25 w66 w.heap.size (fun k_ => some k_ ≠ (.slice Ao18 y182.length co18 : Value).ownBlock ∧ some k_ ≠ (.slice (some ⟨go59, 0, none⟩) t185.length co49 : Value).ownBlock ∧ k_ ≠ gb177) (.slice (some ⟨go61, 0, none⟩) t188.length co64) t188 from (by (with_reducible repeat (first | apply Kd.R_alloc | apply Kd.R_drewN | apply Kd.R_drew)); exact HO_10.out)))); (try (obtain ⟨ce67, hcl67, hM67, hcc67, hfr67⟩ := Kd.R_elem HX67.out z25 (0 : Int) (by omega) (by have h_ : (0 : Int) < ((t188.length : Int) : Int) := of_decide_eq_true (by first | (with_reducible assumption) | assumption); first | exact h_ | (have e_ := (Kd.R_reads' HO_10.out).1; omega) | simpa using h_))); (try (obtain rfl := k25_openM hM67)); (try (have HP67 := Kd.R_seg HX67.out (0 : Int) (by omega) (by have h_ : (0 : Int) < ((t188.length : Int) : Int) := of_decide_eq_true (by first | (with_reducible assumption) | assumption); first | exact h_ | (have e_ := (Kd.R_reads' HO_10.out).1; omega) | simpa using h_) (seg := [.int .u64 1]) (j := 1) hcl67 hcc67 (show 2 ≤ 2 from by decide) (x' := (⟨(rd_T25 t188 0).f0, 1⟩ : S25)) (k25_mkM _ _ _ (⟨(rd_T25 t188 0).f0, 1⟩ : S25) ) (fun _ hk => hk))); (try (have hx67_1 := hcc67 1 _ rfl)); (try (try simp only [show (k25).sz = 2 from rfl, Nat.mul_one, Nat.add_zero] at hx67_1)); (try (try rw [show ((0 : Int)).toNat = 0 from rfl] at hx67_1)); (try (try simp only [Nat.reduceMul, Nat.zero_mul, Nat.zero_add, Nat.reduceAdd] at hx67_1)); (try (have hf67_1 := hfr67 1)); (try (try simp only [show (k25).sz = 2 from rfl, Nat.mul_one, Nat.add_zero] at hf67_1)); (try (try rw [show ((0 : Int)).toNat = 0 from rfl] at hf67_1)); (try (try simp only [Nat.reduceMul, Nat.zero_mul, Nat.zero_add, Nat.reduceAdd] at hf67_1)); (try (clear hcl67 hcc67 hfr67 hM67)))); refine store_event (t := 23) (p := 93) (v := ?vo_w68) (w1 := (w66.setCell ⟨go61, 1, none⟩ (.int .u64 1))) ?hg ?ho ?hn ?hr ?_; (case ho => rfl); (case hg => rfl); (case hn => rfl); (case hr => first | (go_simp; done) | (go_simp; rfl)); intro w68 hw; have hg : w66.grownBy w68 (some go61) := (by rw [hw]; exact HP67.2); have hp_ : Kd.R k25 25 w68 w.heap.size (fun k_ => some k_ ≠ (.slice Ao18 y182.length co18 : Value).ownBlock ∧ some k_ ≠ (.slice (some ⟨go59, 0, none⟩) t185.length co49 : Value).ownBlock ∧ k_ ≠ gb177) (.slice (some ⟨go61, 0, none⟩) t188.length co64) y196 := (by rw [hw, Ny196.out]; exact HP67.1); clear HP67; have n0_ := Aside0.mk (Kd.R_after (v := (.slice (some ⟨go61, 0, none⟩) t188.length co64)) (v1 := (.slice (some ⟨go61, 0, none⟩) t188.length co64)) (ok := (fun k_ => some k_ ≠ (.slice (some ⟨go59, 0, none⟩) t185.length co49 : Value).ownBlock ∧ k_ ≠ gb177)) (by (with_reducible repeat (first | apply Kd.R_alloc | apply Kd.R_drewN | apply Kd.R_drew)); exact Kd.R_mono HO_8.out (fun _ hk => ⟨⟨hk.2, hk.1.2⟩, hk.1.1⟩)) hg (.inl rfl)); have n1_ := Aside0.mk (Kd.R_after (v := (.slice (some ⟨go61, 0, none⟩) t188.length co64)) (v1 := (.slice (some ⟨go61, 0, none⟩) t188.length co64)) (ok := (fun k_ => some k_ ≠ (.slice Ao18 y182.length co18 : Value).ownBlock ∧ k_ ≠ gb177)) (by (with_reducible repeat (first | apply Kd.R_alloc | apply Kd.R_drewN | apply Kd.R_drew)); exact Kd.R_mono HO_9.out (fun _ hk => ⟨⟨hk.1, hk.2.2⟩, hk.2.1⟩)) hg (.inl rfl)); have n2_ := Aside0.mk (hp_); have n3_ := Aside0.mk (blk_grown (g := gb177) (o := .cells #[.int .u64 a2_0, .int .u64 a2_1] 25 (0, 0)) (by (with_reducible repeat (first | refine blk_drewN ?_ _ | refine blk_drew ?_ | refine blk_alloc ?_ _)); exact BK177.out) hg (Kd.R_away HO_10.out (fun _ hk => hk.2.2))); have n4_ := Aside0.mk ((by rw [hw]; exact below_set (HB.out) GB61.out : Below w.heap.size w w68)); clear HO_8; clear HO_9; clear HO_10; clear BK177; clear HB; have HO_8 := n0_; have HO_9 := n1_; have HO_10 := n2_; have BK177 := n3_; have HB := n4_; clear n0_ n1_ n2_ n3_ n4_; clear hg hw hp_) | (go_at_call 9; (with_reducible refine (wigwagref02_Same.calls k3 _ _ y182 _ _ l0 t197 _ ?side1 ?side2 ?side3 ?side4 A62.out).mono ?_); (case side1 => repeat (first | exact (Kd.R_reads' HO_8.out).2.2 | (with_reducible refine Kd.C_alloc ?_ _) | (with_reducible refine Kd.C_drewN ?_ _) | (with_reducible refine Kd.C_drew ?_))); (case side2 => exact (Kd.R_reads' HO_8.out).2.1); (case side3 => repeat (first | exact (Kd.C_below HR0.out HB.out) | (with_reducible refine Kd.C_alloc ?_ _) | (with_reducible refine Kd.C_drewN ?_ _) | (with_reducible refine Kd.C_drew ?_))); (case side4 => exact HC0.out); rintro e w' ⟨rfl, ⟨nd, rfl⟩⟩; (try first | exact ⟨rfl, _, World.drewN_drewN _ _ _⟩ | exact ⟨rfl, _, Eq.trans (World.drewN_drewN _ _ _) (congrArg (World.drewN _) (Nat.add_assoc _ _ _))⟩))))
                            (try simp only [Act.put, List.setIfInBounds_toArray, List.set_cons_zero, List.set_cons_succ])
                            have H := HS63.out
                            clear HS63
                            by_cases c69 : t178 = true
                            · subst c69
                              have H1 : (some t197) = some r := by rw [if_pos rfl] at H; exact H
                              clear H
                              have H := H1
                              clear H1
                              obtain rfl := Option.some.inj H
                              go_wp2
                              repeat (go_quiet (fail); try go_wp2)
                              go_ret
                              exact ⟨by first | rfl | (simp [errW_none, errW_some] <;> rfl) | (simp [*, errW_none, errW_some] <;> rfl), by repeat (first | (with_reducible first | exact HB.out | apply below_alloc | apply pw_below_drewN | apply below_drew1 | refine below_set ?_ GE177.out) | exact HB.out)⟩
                            · replace c69 := Bool.eq_false_iff.mpr c69
                              subst c69
                              have H1 : (some false) = some r := by rw [if_neg (show ¬ (false = true) by decide)] at H; exact H
                              clear H
                              have H := H1
                              clear H1
                              obtain rfl := Option.some.inj H
                              go_wp2
                              repeat (go_quiet (fail); try go_wp2)
                              go_ret
                              exact ⟨by first | rfl | (simp [errW_none, errW_some] <;> rfl) | (simp [*, errW_none, errW_some] <;> rfl), by repeat (first | (with_reducible first | exact HB.out | apply below_alloc | apply pw_below_drewN | apply below_drew1 | refine below_set ?_ GE177.out) | exact HB.out)⟩
                          · rw [if_neg c60] at H
                            exact absurd H (by simp)
                        · rw [if_neg c58] at H
                          exact absurd H (by simp)
    · rw [if_neg c8] at H
      exact absurd H (by simp)

end Go.Proofs.Ytmnpgcpejfkaaaa.P
