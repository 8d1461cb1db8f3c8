-- Printed for this claim by xprint.py of this session: contracts of this session's own stand in for what the print does not take
import Derived.Test.YtmajccpifkbdpaaPx0
import Derived.Test.YtmajccpifkbdpaaPx12
namespace Go.Proofs.Ytmajccpifkbdpaa.P
open Go.RowKit Go.Proofs.YtmajccpifkbdpaaW.PrintWords Go.Proofs.YtmajccpifkbdpaaW.PrintLast Go.Proofs.YtmajccpifkbdpaaW.PrintMore
attribute [local go_sem] max2_int min2_int max_two min_two max_three min_three max_four min_four   -- for this text's walks alone
set_option linter.unusedVariables false
set_option linter.unusedSimpArgs false

/-! ### wigwagref10_Ack: function 12 -/
def wigwagref10_Ack.j0 : Nat → Int → Bool → Int → Int → Int → Int → Option (Int × Int × Int × Int)
  | 0, _, _, _, _, _, _ => none
  | k + 1, x1, x17, x232000, x232001, x232002, x232003 => if x17 = true then (some (x232000, x232001, x232002, x232003)) else (if x232000 < x232001 then ((wigwagref01_Add.f x232000 x1).bind fun t233 => ((wigwagref10_Held.f t233).bind fun t234 => (some (t234, x232001, x232002, x232003)))) else ((wigwagref01_Mul.f x1 1200).bind fun t235 => ((wigwagref01_Add.f x232003 t235).bind fun t236 => (if x232000 = 0 then ((wigwagref01_Add.f x232000 (IntKind.u64.wrap (t236))).bind fun t237 => ((wigwagref10_Held.f t237).bind fun t238 => (some (t238, x232001, x232002, 0)))) else ((wigwagref01_Add.f x232000 (IntKind.u64.wrap (Int.tdiv t236 x232000))).bind fun t239 => ((wigwagref10_Held.f t239).bind fun t240 => (some (t240, x232001, x232002, Int.tmod t236 x232000))))))))
def wigwagref10_Ack.f (k : Nat) (a0_0 : Int) (a0_1 : Int) (a0_2 : Int) (a0_3 : Int) (a1 : Int) (a2 : Int) (a3 : Bool) : Option (Int × Int × Int × Int) := if a2 < a0_2 then (wigwagref10_Ack.j0 k a1 true a0_0 a0_1 a0_2 a0_3) else (wigwagref10_Ack.j0 k a1 a3 a0_0 a0_1 a0_2 a0_3)
theorem wigwagref10_Ack.mono_l : ∀ k, (∀ y0 y1 y2 y3 y4 y5, LeO (wigwagref10_Ack.j0 k y0 y1 y2 y3 y4 y5) (wigwagref10_Ack.j0 (k + 1) y0 y1 y2 y3 y4 y5))
  | 0 => fun _ _ _ _ _ _ r h => by simp [wigwagref10_Ack.j0] at h
  | k + 1 => by
    have ih0 := wigwagref10_Ack.mono_l k
    · intro y0 y1 y2 y3 y4 y5
      unfold wigwagref10_Ack.j0
      repeat' first
      | (with_reducible exact ih0 _ _ _ _ _ _)
      | (with_reducible exact LeO.refl _)
      | (with_reducible exact LeO.none _)
      | (with_reducible refine LeO.ite ?_ ?_)
      | (with_reducible refine LeO.bind ?_ (fun _ => ?_))
      | exact ih0 _ _ _ _ _ _
      | exact LeO.none _
      | refine LeO.ite ?_ ?_
      | refine LeO.bind ?_ (fun _ => ?_)
theorem wigwagref10_Ack.mono : ∀ a0 a1 a2 a3 a4 a5 a6 k, LeO (wigwagref10_Ack.f k a0 a1 a2 a3 a4 a5 a6) (wigwagref10_Ack.f (k + 1) a0 a1 a2 a3 a4 a5 a6) := by
  intro a0 a1 a2 a3 a4 a5 a6 k
  have ih0 := wigwagref10_Ack.mono_l k
  unfold wigwagref10_Ack.f
  repeat' first
      | (with_reducible exact ih0 _ _ _ _ _ _)
      | (with_reducible exact LeO.refl _)
      | (with_reducible exact LeO.none _)
      | (with_reducible refine LeO.ite ?_ ?_)
      | (with_reducible refine LeO.bind ?_ (fun _ => ?_))
      | exact ih0 _ _ _ _ _ _
      | exact LeO.none _
      | refine LeO.ite ?_ ?_
      | refine LeO.bind ?_ (fun _ => ?_)
def wigwagref10_Ack.T10 : Bool × List (List Nat × List Nat) := (true, [([], []), ([0], [0]), ([], []), ([], []), ([2, 3], [2, 3]), ([1, 4], [1, 4]), ([5, 5], [5]), ([0, 1, 2, 3, 4, 5, 6], []), ([7, 6, 6, 0, 1, 2, 3, 4, 5, 6], [6, 7])])
def wigwagref10_Ack.B10 : List Nat := [0, 1, 0, 0, 12, 31, 63, 127, 255]
theorem wigwagref10_Ack.tab10 : rtab .any (opsOf Try.f12 10) = wigwagref10_Ack.T10 := by kernel_rfl
theorem wigwagref10_Ack.bits10 : waitsOk wigwagref10_Ack.T10.2 wigwagref10_Ack.B10 = true := by kernel_rfl
set_option maxHeartbeats 8000000 in
set_option maxRecDepth 100000 in
theorem wigwagref10_Ack.calls (k : Nat) (a0_0 : Int) (a0_1 : Int) (a0_2 : Int) (a0_3 : Int) (a1 : Int) (a2 : Int) (a3 : Bool) (r1 : Int) (r2 : Int) (r3 : Int) (r4 : Int) (w : World) (h : wigwagref10_Ack.f k a0_0 a0_1 a0_2 a0_3 a1 a2 a3 = some (r1, r2, r3, r4)) :
    Calls Try.prog 12 #[.agg #[.int .u64 a0_0, .int .u64 a0_1, .int .u64 a0_2, .int .u64 a0_3], .int .u64 a1, .int .u64 a2, .bool a3] w fun e w' => e = .returned (.agg #[.int .u64 r1, .int .u64 r2, .int .u64 r3, .int .u64 r4]) ∧ Below w.heap.size w w' := by
  have hu25 := Try.underlying25
  have HB := Aside0.mk (Below.refl w.heap.size w)
  have H : (if a2 < a0_2 then (wigwagref10_Ack.j0 k a1 true a0_0 a0_1 a0_2 a0_3) else (wigwagref10_Ack.j0 k a1 a3 a0_0 a0_1 a0_2 a0_3)) = some (r1, r2, r3, r4) := h
  clear h
  have HC5 := Aside0.mk H
  clear H
  go_enter Try.func12, Try.ntmps12
  go_upto_region 1 with (first | ((with_reducible refine gate_dst (N := 4) rfl ?_); refine box_event ?hg (N := 4) ?hd (cs := #[.int .u64 a0_0, .int .u64 a0_1, .int .u64 a0_2, .int .u64 a0_3]) (t := 25) ?hr ?_; (case hd => rfl); (case hg => rfl); (case hr => first | (go_simp; done) | (go_simp; rfl)); intro gb231 hg w6 hbox hb; have n0_ := Aside0.mk (below_step (by repeat (first | (with_reducible first | exact HB.out | apply below_alloc | apply pw_below_drewN | apply below_drew1) | exact HB.out)) hb); have n1_ := Aside0.mk (hbox); have n2_ := Aside0.mk ((by rw [hg]; exact (below_size (by repeat (first | (with_reducible first | exact HB.out | apply below_alloc | apply pw_below_drewN | apply below_drew1) | exact HB.out))) : w.heap.size ≤ gb231)); have n3_ := Aside0.mk ((by rw [hg]; exact (below_size (by repeat (first | (with_reducible first | exact HB.out | apply below_alloc | apply pw_below_drewN | apply below_drew1) | exact HB.out))) : w.heap.size ≤ gb231)); clear HB; have HB := n0_; have BK231 := n1_; have GW231 := n2_; have GE231 := n3_; clear n0_ n1_ n2_ n3_; clear hb hbox hg) | ((with_reducible refine gate_dst (N := 8) rfl ?_); refine box_event ?hg (N := 8) ?hd (cs := #[.int .u64 0, .int .u64 0, .int .u64 0, .int .u64 0]) (t := 25) ?hr ?_; (case hd => rfl); (case hg => rfl); (case hr => first | (go_simp; done) | (go_simp; rfl)); intro gb232 hg w7 hbox hb; have n0_ := Aside0.mk (blk_below (g := gb231) (o := .cells #[.int .u64 a0_0, .int .u64 a0_1, .int .u64 a0_2, .int .u64 a0_3] 25 (0, 0)) (by (with_reducible repeat (first | refine blk_drewN ?_ _ | refine blk_drew ?_ | refine blk_alloc ?_ _)); exact BK231.out) hb); have n1_ := Aside0.mk (below_step (by repeat (first | (with_reducible first | exact HB.out | apply below_alloc | apply pw_below_drewN | apply below_drew1 | refine below_set ?_ GE231.out) | exact HB.out)) hb); have n2_ := Aside0.mk (hbox); have n3_ := Aside0.mk ((by rw [hg]; exact (below_size (by repeat (first | (with_reducible first | exact HB.out | apply below_alloc | apply pw_below_drewN | apply below_drew1 | refine below_set ?_ GE231.out) | exact HB.out))) : w.heap.size ≤ gb232)); have n4_ := Aside0.mk ((by rw [hg]; exact (below_size (by repeat (first | (with_reducible first | exact HB.out | apply below_alloc | apply pw_below_drewN | apply below_drew1 | refine below_set ?_ GE231.out) | exact HB.out))) : w.heap.size ≤ gb232)); have n5_ := Aside0.mk ((by rw [hg]; exact Nat.ne_of_lt (blk_lt (g := gb231) (o := .cells #[.int .u64 a0_0, .int .u64 a0_1, .int .u64 a0_2, .int .u64 a0_3] 25 (0, 0)) (by (with_reducible repeat (first | refine blk_drewN ?_ _ | refine blk_drew ?_ | refine blk_alloc ?_ _)); exact BK231.out)) : gb231 ≠ gb232)); have n6_ := Aside0.mk ((by rw [hg]; exact Nat.ne_of_gt (blk_lt (g := gb231) (o := .cells #[.int .u64 a0_0, .int .u64 a0_1, .int .u64 a0_2, .int .u64 a0_3] 25 (0, 0)) (by (with_reducible repeat (first | refine blk_drewN ?_ _ | refine blk_drew ?_ | refine blk_alloc ?_ _)); exact BK231.out)) : gb232 ≠ gb231)); clear BK231; clear HB; have BK231 := n0_; have HB := n1_; have BK232 := n2_; have GW232 := n3_; have GE232 := n4_; have NB231_232 := n5_; have NB232_231 := n6_; clear n0_ n1_ n2_ n3_ n4_ n5_ n6_; clear hb hbox hg))
  (try simp only [Act.put, List.setIfInBounds_toArray, List.set_cons_zero, List.set_cons_succ])
  go_cut [17] (fun v17 wc => ∃ (kq : Nat) (x17_4 : Bool), v17 = .bool x17_4 ∧ Aside0 (wigwagref10_Ack.j0 kq a1 x17_4 a0_0 a0_1 a0_2 a0_3 = some (r1, r2, r3, r4)) ∧ Aside0 (kq ≤ k) ∧ Aside0 (wc.heap[gb231]? = some (.cells #[.int .u64 a0_0, .int .u64 a0_1, .int .u64 a0_2, .int .u64 a0_3] 25 (0, 0))) ∧ Aside0 (wc.heap[gb232]? = some (.cells #[.int .u64 0, .int .u64 0, .int .u64 0, .int .u64 0] 25 (0, 0))) ∧ Aside0 (Below w.heap.size w wc))
  case first =>
    have H := HC5.out
    clear HC5
    by_cases c8 : a2 < a0_2
    · rw [if_pos c8] at H
      have c8b0 : decide (a2 < a0_2) = true := decide_eq_true c8
      clear c8
      (first | rw [c8b0] | (simp only [i64_w, i32_w]; rw [c8b0]) | skip)
      have H' := Aside0.mk H
      clear H
      have hnb9 := NB231_232.out
      have hnc9 := NB232_231.out
      have hcz10_0 : w7.cell? ⟨gb231, 0, none⟩ = some (.int .u64 a0_0) := (blk_cell BK231.out 0).trans rfl
      have hcz10_1 : w7.cell? ⟨gb231, 1, none⟩ = some (.int .u64 a0_1) := (blk_cell BK231.out 1).trans rfl
      have hcz10_2 : w7.cell? ⟨gb231, 2, none⟩ = some (.int .u64 a0_2) := (blk_cell BK231.out 2).trans rfl
      have hcz10_3 : w7.cell? ⟨gb231, 3, none⟩ = some (.int .u64 a0_3) := (blk_cell BK231.out 3).trans rfl
      have hfz10_0 := blk_frozen BK231.out 0
      have hfz10_1 := blk_frozen BK231.out 1
      have hfz10_2 := blk_frozen BK231.out 2
      have hfz10_3 := blk_frozen BK231.out 3
      go_wp2
      go_meet
      case rel => exact ⟨_, (true), (by first | rfl | (simp; done) | (simp [*]; done)), H', ⟨by first | omega | exact Nat.le_refl _⟩, ⟨by (with_reducible repeat (first | refine blk_drewN ?_ _ | refine blk_drew ?_ | refine blk_alloc ?_ _)); exact BK231.out⟩, ⟨by (with_reducible repeat (first | refine blk_drewN ?_ _ | refine blk_drew ?_ | refine blk_alloc ?_ _)); exact BK232.out⟩, ⟨by repeat (first | (with_reducible first | exact HB.out | apply below_alloc | apply pw_below_drewN | apply below_drew1 | refine below_set ?_ GE231.out | refine below_set ?_ GE232.out) | exact HB.out)⟩⟩
    · rw [if_neg c8] at H
      have c8b0 : decide (a2 < a0_2) = false := decide_eq_false c8
      clear c8
      (first | rw [c8b0] | (simp only [i64_w, i32_w]; rw [c8b0]) | skip)
      have H' := Aside0.mk H
      clear H
      have hnb11 := NB231_232.out
      have hnc11 := NB232_231.out
      have hcz12_0 : w7.cell? ⟨gb231, 0, none⟩ = some (.int .u64 a0_0) := (blk_cell BK231.out 0).trans rfl
      have hcz12_1 : w7.cell? ⟨gb231, 1, none⟩ = some (.int .u64 a0_1) := (blk_cell BK231.out 1).trans rfl
      have hcz12_2 : w7.cell? ⟨gb231, 2, none⟩ = some (.int .u64 a0_2) := (blk_cell BK231.out 2).trans rfl
      have hcz12_3 : w7.cell? ⟨gb231, 3, none⟩ = some (.int .u64 a0_3) := (blk_cell BK231.out 3).trans rfl
      have hfz12_0 := blk_frozen BK231.out 0
      have hfz12_1 := blk_frozen BK231.out 1
      have hfz12_2 := blk_frozen BK231.out 2
      have hfz12_3 := blk_frozen BK231.out 3
      go_wp2
      go_meet
      case rel => exact ⟨_, (a3), (by first | rfl | (simp; done) | (simp [*]; done)), H', ⟨by first | omega | exact Nat.le_refl _⟩, ⟨by (with_reducible repeat (first | refine blk_drewN ?_ _ | refine blk_drew ?_ | refine blk_alloc ?_ _)); exact BK231.out⟩, ⟨by (with_reducible repeat (first | refine blk_drewN ?_ _ | refine blk_drew ?_ | refine blk_alloc ?_ _)); exact BK232.out⟩, ⟨by repeat (first | (with_reducible first | exact HB.out | apply below_alloc | apply pw_below_drewN | apply below_drew1 | refine below_set ?_ GE231.out | refine below_set ?_ GE232.out) | exact HB.out)⟩⟩
  case rest =>
    clear HC5
    try clear c1
    try clear p2
    try clear c8
    try clear c8b0
    try clear c9
    try clear c11
    try clear c12
    try clear hcz10_0
    try clear hcz10_1
    try clear hcz10_2
    try clear hcz10_3
    try clear hcz12_0
    try clear hcz12_1
    try clear hcz12_2
    try clear hcz12_3
    try clear hfz10_0
    try clear hfz10_1
    try clear hfz10_2
    try clear hfz10_3
    try clear hfz12_0
    try clear hfz12_1
    try clear hfz12_2
    try clear hfz12_3
    obtain ⟨kq, x17_4, rfl, HA, HJ4, BK231, BK232, HB⟩ := hcut
    cases kq with
    | zero => exact absurd HA.out (by simp [wigwagref10_Ack.j0])
    | succ kj4 =>
      have H := HA.out
      clear HA
      simp only [wigwagref10_Ack.j0] at H
      by_cases c13 : x17_4 = true
      · subst c13
        have H1 : (some (a0_0, a0_1, a0_2, a0_3)) = some (r1, r2, r3, r4) := by rw [if_pos rfl] at H; exact H
        clear H
        have H := H1
        clear H1
        simp only [Option.some.injEq, Prod.mk.injEq] at H
        obtain ⟨rfl, rfl, rfl, rfl⟩ := H
        have hnb14 := NB231_232.out
        have hnc14 := NB232_231.out
        have hcz15_0 : wc.cell? ⟨gb231, 0, none⟩ = some (.int .u64 a0_0) := (blk_cell BK231.out 0).trans rfl
        have hcz15_1 : wc.cell? ⟨gb231, 1, none⟩ = some (.int .u64 a0_1) := (blk_cell BK231.out 1).trans rfl
        have hcz15_2 : wc.cell? ⟨gb231, 2, none⟩ = some (.int .u64 a0_2) := (blk_cell BK231.out 2).trans rfl
        have hcz15_3 : wc.cell? ⟨gb231, 3, none⟩ = some (.int .u64 a0_3) := (blk_cell BK231.out 3).trans rfl
        have hfz15_0 := blk_frozen BK231.out 0
        have hfz15_1 := blk_frozen BK231.out 1
        have hfz15_2 := blk_frozen BK231.out 2
        have hfz15_3 := blk_frozen BK231.out 3
        have hcz16_0 : wc.cell? ⟨gb232, 0, none⟩ = some (.int .u64 0) := (blk_cell BK232.out 0).trans rfl
        have hcz16_1 : wc.cell? ⟨gb232, 1, none⟩ = some (.int .u64 0) := (blk_cell BK232.out 1).trans rfl
        have hcz16_2 : wc.cell? ⟨gb232, 2, none⟩ = some (.int .u64 0) := (blk_cell BK232.out 2).trans rfl
        have hcz16_3 : wc.cell? ⟨gb232, 3, none⟩ = some (.int .u64 0) := (blk_cell BK232.out 3).trans rfl
        have hfz16_0 := blk_frozen BK232.out 0
        have hfz16_1 := blk_frozen BK232.out 1
        have hfz16_2 := blk_frozen BK232.out 2
        have hfz16_3 := blk_frozen BK232.out 3
        go_wp2
        refine bodyPost_ret (results_cell_row rfl _ _ gb232 25 #[.int .u64 a0_0, .int .u64 a0_1, .int .u64 a0_2, .int .u64 a0_3] (0, 0) _ rfl (by (with_reducible repeat (first | refine blk_drewN ?_ _ | refine blk_drew ?_ | refine blk_alloc ?_ _)); refine blk_put (cs := #[.int .u64 a0_0, .int .u64 a0_1, .int .u64 a0_2, .int .u64 0]) ?_ 3 _ rfl; (with_reducible repeat (first | refine blk_drewN ?_ _ | refine blk_drew ?_ | refine blk_alloc ?_ _)); refine blk_put (cs := #[.int .u64 a0_0, .int .u64 a0_1, .int .u64 0, .int .u64 0]) ?_ 2 _ rfl; (with_reducible repeat (first | refine blk_drewN ?_ _ | refine blk_drew ?_ | refine blk_alloc ?_ _)); refine blk_put (cs := #[.int .u64 a0_0, .int .u64 0, .int .u64 0, .int .u64 0]) ?_ 1 _ rfl; (with_reducible repeat (first | refine blk_drewN ?_ _ | refine blk_drew ?_ | refine blk_alloc ?_ _)); refine blk_put (cs := #[.int .u64 0, .int .u64 0, .int .u64 0, .int .u64 0]) ?_ 0 _ rfl; (with_reducible repeat (first | refine blk_drewN ?_ _ | refine blk_drew ?_ | refine blk_alloc ?_ _)); exact BK232.out) Try.underlying25 rfl (by kernel_rfl)) rfl ?_
        exact ⟨by first | rfl | (simp [errW_none, errW_some] <;> rfl) | (simp [*, errW_none, errW_some] <;> rfl), by repeat (first | (with_reducible first | exact HB.out | apply below_alloc | apply pw_below_drewN | apply below_drew1 | refine below_set ?_ GE231.out | refine below_set ?_ GE232.out) | exact HB.out)⟩
      · replace c13 := Bool.eq_false_iff.mpr c13
        subst c13
        have H1 : (if a0_0 < a0_1 then ((wigwagref01_Add.f a0_0 a1).bind fun t233 => ((wigwagref10_Held.f t233).bind fun t234 => (some (t234, a0_1, a0_2, a0_3)))) else ((wigwagref01_Mul.f a1 1200).bind fun t235 => ((wigwagref01_Add.f a0_3 t235).bind fun t236 => (if a0_0 = 0 then ((wigwagref01_Add.f a0_0 (IntKind.u64.wrap (t236))).bind fun t237 => ((wigwagref10_Held.f t237).bind fun t238 => (some (t238, a0_1, a0_2, 0)))) else ((wigwagref01_Add.f a0_0 (IntKind.u64.wrap (Int.tdiv t236 a0_0))).bind fun t239 => ((wigwagref10_Held.f t239).bind fun t240 => (some (t240, a0_1, a0_2, Int.tmod t236 a0_0)))))))) = some (r1, r2, r3, r4) := by rw [if_neg (show ¬ (false = true) by decide)] at H; exact H
        clear H
        have H := H1
        clear H1
        by_cases c17 : a0_0 < a0_1
        · rw [if_pos c17] at H
          have c17b0 : decide (a0_0 < a0_1) = true := decide_eq_true c17
          clear c17
          replace H := Option.bind_eq_some_iff.mp H
          obtain ⟨t233, A180, H⟩ := H
          replace H : ((wigwagref10_Held.f t233).bind fun t234 => (some (t234, a0_1, a0_2, a0_3))) = some (r1, r2, r3, r4) := H
          have A18 := Aside0.mk A180
          clear A180
          replace H := Option.bind_eq_some_iff.mp H
          obtain ⟨t234, A190, H⟩ := H
          replace H : (some (t234, a0_1, a0_2, a0_3)) = some (r1, r2, r3, r4) := H
          have A19 := Aside0.mk A190
          clear A190
          simp only [Option.some.injEq, Prod.mk.injEq] at H
          obtain ⟨rfl, rfl, rfl, rfl⟩ := H
          have hnb20 := NB231_232.out
          have hnc20 := NB232_231.out
          have hcz21_0 : wc.cell? ⟨gb231, 0, none⟩ = some (.int .u64 a0_0) := (blk_cell BK231.out 0).trans rfl
          have hcz21_1 : wc.cell? ⟨gb231, 1, none⟩ = some (.int .u64 a0_1) := (blk_cell BK231.out 1).trans rfl
          have hcz21_2 : wc.cell? ⟨gb231, 2, none⟩ = some (.int .u64 a0_2) := (blk_cell BK231.out 2).trans rfl
          have hcz21_3 : wc.cell? ⟨gb231, 3, none⟩ = some (.int .u64 a0_3) := (blk_cell BK231.out 3).trans rfl
          have hfz21_0 := blk_frozen BK231.out 0
          have hfz21_1 := blk_frozen BK231.out 1
          have hfz21_2 := blk_frozen BK231.out 2
          have hfz21_3 := blk_frozen BK231.out 3
          go_wp2_with (first | ((with_reducible refine gate_callee (f := 24) rfl ?_); refine goesL_ (some 27) rfl rfl Try.func24 (by kernel_rfl) rfl #[.int .u64 a0_0, .int .u64 a1] rfl (by (try simp only [List.map_toArray, List.map_cons, List.map_nil]); first | done | rfl | (simp only [List.length_drop, List.length_take]; rfl)) ?_; (with_reducible refine (wigwagref01_Add.calls a0_0 a1 t233 _ A18.out).mono ?_); rintro e w' ⟨rfl, ⟨nd, rfl⟩⟩; refine ⟨_, rfl, ?_⟩; (try (rw [drewN_self wc]; generalize hq_ : World.drewN wc _ = wc; have n0_ : Aside0 (wc.heap[gb231]? = some (.cells #[.int .u64 a0_0, .int .u64 a0_1, .int .u64 a0_2, .int .u64 a0_3] 25 (0, 0))) := ⟨by rw [← hq_]; exact (by (with_reducible repeat (first | refine blk_drewN ?_ _ | refine blk_drew ?_ | refine blk_alloc ?_ _)); exact BK231.out)⟩; have n1_ : Aside0 (wc.heap[gb232]? = some (.cells #[.int .u64 0, .int .u64 0, .int .u64 0, .int .u64 0] 25 (0, 0))) := ⟨by rw [← hq_]; exact (by (with_reducible repeat (first | refine blk_drewN ?_ _ | refine blk_drew ?_ | refine blk_alloc ?_ _)); exact BK232.out)⟩; have n2_ : Aside0 (Below w.heap.size w wc) := ⟨by rw [← hq_]; exact (by repeat (first | (with_reducible first | exact HB.out | apply below_alloc | apply pw_below_drewN | apply below_drew1 | refine below_set ?_ GE231.out | refine below_set ?_ GE232.out) | exact HB.out))⟩; clear BK231 BK232 HB hq_; have BK231 := n0_; have BK232 := n1_; have HB := n2_; clear n0_ n1_ n2_))) | ((with_reducible refine gate_callee (f := 18) rfl ?_); refine goesL_ (some 28) rfl rfl Try.func18 (by kernel_rfl) rfl #[.int .u64 t233] rfl (by (try simp only [List.map_toArray, List.map_cons, List.map_nil]); first | done | rfl | (simp only [List.length_drop, List.length_take]; rfl)) ?_; (with_reducible refine (wigwagref10_Held.calls t233 t234 _ A19.out).mono ?_); rintro e w' ⟨rfl, ⟨nd, rfl⟩⟩; refine ⟨_, rfl, ?_⟩; (try (rw [drewN_self wc]; generalize hq_ : World.drewN wc _ = wc; have n0_ : Aside0 (wc.heap[gb231]? = some (.cells #[.int .u64 a0_0, .int .u64 a0_1, .int .u64 a0_2, .int .u64 a0_3] 25 (0, 0))) := ⟨by rw [← hq_]; exact (by (with_reducible repeat (first | refine blk_drewN ?_ _ | refine blk_drew ?_ | refine blk_alloc ?_ _)); exact BK231.out)⟩; have n1_ : Aside0 (wc.heap[gb232]? = some (.cells #[.int .u64 0, .int .u64 0, .int .u64 0, .int .u64 0] 25 (0, 0))) := ⟨by rw [← hq_]; exact (by (with_reducible repeat (first | refine blk_drewN ?_ _ | refine blk_drew ?_ | refine blk_alloc ?_ _)); exact BK232.out)⟩; have n2_ : Aside0 (Below w.heap.size w wc) := ⟨by rw [← hq_]; exact (by repeat (first | (with_reducible first | exact HB.out | apply below_alloc | apply pw_below_drewN | apply below_drew1 | refine below_set ?_ GE231.out | refine below_set ?_ GE232.out) | exact HB.out))⟩; clear BK231 BK232 HB hq_; have BK231 := n0_; have BK232 := n1_; have HB := n2_; clear n0_ n1_ n2_)); have hcz22_0 : wc.cell? ⟨gb231, 0, none⟩ = some (.int .u64 a0_0) := (blk_cell BK231.out 0).trans rfl; have hcz22_1 : wc.cell? ⟨gb231, 1, none⟩ = some (.int .u64 a0_1) := (blk_cell BK231.out 1).trans rfl; have hcz22_2 : wc.cell? ⟨gb231, 2, none⟩ = some (.int .u64 a0_2) := (blk_cell BK231.out 2).trans rfl; have hcz22_3 : wc.cell? ⟨gb231, 3, none⟩ = some (.int .u64 a0_3) := (blk_cell BK231.out 3).trans rfl; have hfz22_0 := blk_frozen BK231.out 0; have hfz22_1 := blk_frozen BK231.out 1; have hfz22_2 := blk_frozen BK231.out 2; have hfz22_3 := blk_frozen BK231.out 3; have hcz23_0 : wc.cell? ⟨gb232, 0, none⟩ = some (.int .u64 0) := (blk_cell BK232.out 0).trans rfl; have hcz23_1 : wc.cell? ⟨gb232, 1, none⟩ = some (.int .u64 0) := (blk_cell BK232.out 1).trans rfl; have hcz23_2 : wc.cell? ⟨gb232, 2, none⟩ = some (.int .u64 0) := (blk_cell BK232.out 2).trans rfl; have hcz23_3 : wc.cell? ⟨gb232, 3, none⟩ = some (.int .u64 0) := (blk_cell BK232.out 3).trans rfl; have hfz23_0 := blk_frozen BK232.out 0; have hfz23_1 := blk_frozen BK232.out 1; have hfz23_2 := blk_frozen BK232.out 2; have hfz23_3 := blk_frozen BK232.out 3))
          refine bodyPost_ret (results_cell_row rfl _ _ gb232 25 #[.int .u64 t234, .int .u64 a0_1, .int .u64 a0_2, .int .u64 a0_3] (0, 0) _ rfl (by (with_reducible repeat (first | refine blk_drewN ?_ _ | refine blk_drew ?_ | refine blk_alloc ?_ _)); refine blk_put (cs := #[.int .u64 t234, .int .u64 a0_1, .int .u64 a0_2, .int .u64 0]) ?_ 3 _ rfl; (with_reducible repeat (first | refine blk_drewN ?_ _ | refine blk_drew ?_ | refine blk_alloc ?_ _)); refine blk_put (cs := #[.int .u64 t234, .int .u64 a0_1, .int .u64 0, .int .u64 0]) ?_ 2 _ rfl; (with_reducible repeat (first | refine blk_drewN ?_ _ | refine blk_drew ?_ | refine blk_alloc ?_ _)); refine blk_put (cs := #[.int .u64 t234, .int .u64 0, .int .u64 0, .int .u64 0]) ?_ 1 _ rfl; (with_reducible repeat (first | refine blk_drewN ?_ _ | refine blk_drew ?_ | refine blk_alloc ?_ _)); refine blk_put (cs := #[.int .u64 0, .int .u64 0, .int .u64 0, .int .u64 0]) ?_ 0 _ rfl; (with_reducible repeat (first | refine blk_drewN ?_ _ | refine blk_drew ?_ | refine blk_alloc ?_ _)); refine blk_far ?_ NB232_231.out _; (with_reducible repeat (first | refine blk_drewN ?_ _ | refine blk_drew ?_ | refine blk_alloc ?_ _)); exact BK232.out) Try.underlying25 rfl (by kernel_rfl)) rfl ?_
          exact ⟨by first | rfl | (simp [errW_none, errW_some] <;> rfl) | (simp [*, errW_none, errW_some] <;> rfl), by repeat (first | (with_reducible first | exact HB.out | apply below_alloc | apply pw_below_drewN | apply below_drew1 | refine below_set ?_ GE231.out | refine below_set ?_ GE232.out) | exact HB.out)⟩
        · rw [if_neg c17] at H
          have c17b0 : decide (a0_0 < a0_1) = false := decide_eq_false c17
          clear c17
          replace H := Option.bind_eq_some_iff.mp H
          obtain ⟨t235, A240, H⟩ := H
          replace H : ((wigwagref01_Add.f a0_3 t235).bind fun t236 => (if a0_0 = 0 then ((wigwagref01_Add.f a0_0 (IntKind.u64.wrap (t236))).bind fun t237 => ((wigwagref10_Held.f t237).bind fun t238 => (some (t238, a0_1, a0_2, 0)))) else ((wigwagref01_Add.f a0_0 (IntKind.u64.wrap (Int.tdiv t236 a0_0))).bind fun t239 => ((wigwagref10_Held.f t239).bind fun t240 => (some (t240, a0_1, a0_2, Int.tmod t236 a0_0)))))) = some (r1, r2, r3, r4) := H
          have A24 := Aside0.mk A240
          clear A240
          replace H := Option.bind_eq_some_iff.mp H
          obtain ⟨t236, A250, H⟩ := H
          replace H : (if a0_0 = 0 then ((wigwagref01_Add.f a0_0 (IntKind.u64.wrap (t236))).bind fun t237 => ((wigwagref10_Held.f t237).bind fun t238 => (some (t238, a0_1, a0_2, 0)))) else ((wigwagref01_Add.f a0_0 (IntKind.u64.wrap (Int.tdiv t236 a0_0))).bind fun t239 => ((wigwagref10_Held.f t239).bind fun t240 => (some (t240, a0_1, a0_2, Int.tmod t236 a0_0))))) = some (r1, r2, r3, r4) := H
          have A25 := Aside0.mk A250
          clear A250
          by_cases c26 : a0_0 = 0
          · rw [if_pos c26] at H
            have c26b0 : (a0_0 == 0) = true := beq_iff_eq.mpr c26
            have c26b1 : (a0_0 != 0) = false := bne_eq_false_iff_eq.mpr c26
            clear c26
            replace H := Option.bind_eq_some_iff.mp H
            obtain ⟨t237, A270, H⟩ := H
            replace H : ((wigwagref10_Held.f t237).bind fun t238 => (some (t238, a0_1, a0_2, 0))) = some (r1, r2, r3, r4) := H
            have A27 := Aside0.mk A270
            clear A270
            replace H := Option.bind_eq_some_iff.mp H
            obtain ⟨t238, A280, H⟩ := H
            replace H : (some (t238, a0_1, a0_2, 0)) = some (r1, r2, r3, r4) := H
            have A28 := Aside0.mk A280
            clear A280
            simp only [Option.some.injEq, Prod.mk.injEq] at H
            obtain ⟨rfl, rfl, rfl, rfl⟩ := H
            have hnb29 := NB231_232.out
            have hnc29 := NB232_231.out
            have hcz30_0 : wc.cell? ⟨gb231, 0, none⟩ = some (.int .u64 a0_0) := (blk_cell BK231.out 0).trans rfl
            have hcz30_1 : wc.cell? ⟨gb231, 1, none⟩ = some (.int .u64 a0_1) := (blk_cell BK231.out 1).trans rfl
            have hcz30_2 : wc.cell? ⟨gb231, 2, none⟩ = some (.int .u64 a0_2) := (blk_cell BK231.out 2).trans rfl
            have hcz30_3 : wc.cell? ⟨gb231, 3, none⟩ = some (.int .u64 a0_3) := (blk_cell BK231.out 3).trans rfl
            have hfz30_0 := blk_frozen BK231.out 0
            have hfz30_1 := blk_frozen BK231.out 1
            have hfz30_2 := blk_frozen BK231.out 2
            have hfz30_3 := blk_frozen BK231.out 3
            try go_wp2
            have n0_ := Aside0.mk (blk_drew BK231.out)
            have n1_ := Aside0.mk (blk_drew BK232.out)
            have n2_ := Aside0.mk (below_drew1 HB.out)
            clear BK231
            clear BK232
            clear HB
            have BK231 := n0_
            have BK232 := n1_
            have HB := n2_
            clear n0_ n1_ n2_
            refine start_ (n := 6) (S := fun w' => w'.cell? ⟨gb231, 0, none⟩ = some (.int .u64 a0_0) ∧ w'.cell? ⟨gb231, 1, none⟩ = some (.int .u64 a0_1) ∧ w'.cell? ⟨gb231, 2, none⟩ = some (.int .u64 a0_2) ∧ w'.cell? ⟨gb231, 3, none⟩ = some (.int .u64 a0_3)) (ds := []) #[false, false, false, false, false, false] (by kernel_rfl) rfl rfl ⟨(blk_cell BK231.out 0).trans rfl, (blk_cell BK231.out 1).trans rfl, (blk_cell BK231.out 2).trans rfl, (blk_cell BK231.out 3).trans rfl⟩ (fun hHeld => ?_)
            generalize wc.drew = w31 at BK231 BK232 HB hHeld ⊢
            refine pure_ (i := 0) (N := some 31) (v := ?_) (a' := ?_) #[true, false, false, false, false, false] rfl rfl (by kernel_rfl) (fun _ _ _ h => h) (Or.inl ⟨by rfl, ?_⟩) ?_ ?_
            rotate_left
            · intro w'
              go_simp
              with_reducible rfl
            rotate_left
            · simp only [Act.put, List.setIfInBounds_toArray, List.set_cons_zero, List.set_cons_succ, i64_w, i32_w]
              rfl
            refine pure_ (i := 2) (N := some 33) (v := ?_) (a' := ?_) #[true, false, true, false, false, false] rfl rfl (by kernel_rfl) (fun _ _ _ h => h) (Or.inl ⟨by rfl, ?_⟩) ?_ ?_
            rotate_left
            · intro w'
              go_simp
              with_reducible rfl
            rotate_left
            · simp only [Act.put, List.setIfInBounds_toArray, List.set_cons_zero, List.set_cons_succ, i64_w, i32_w]
              rfl
            refine take_ (i := 1) (N := some 32) (v := ?_) (a' := ?_) #[true, true, true, false, false, false] rfl rfl (by kernel_rfl) (fun _ _ _ h => h) (Or.inl ⟨by rfl, ?_⟩) hHeld ?_ ?_
            rotate_left
            · rintro w' ⟨s0, s1, s2, s3⟩
              go_simp
              with_reducible rfl
            rotate_left
            · simp only [Act.put, List.setIfInBounds_toArray, List.set_cons_zero, List.set_cons_succ, i64_w, i32_w]
              rfl
            refine one_ (i := 3) (N := some 34) #[true, true, true, true, false, false] rfl rfl (by kernel_rfl) (by decide) (fun K hK => ?_)
            refine goes_ Try.func25 (by kernel_rfl) rfl #[.int .u64 a1, .int .u64 1200] (by rfl) rfl rfl (by (try simp only [List.map_toArray, List.map_cons, List.map_nil]); first | done | rfl | (simp only [List.length_drop, List.length_take]; rfl)) ?_
            with_reducible refine (wigwagref01_Mul.calls a1 1200 t235 _ A24.out).mono ?_
            rintro e w' ⟨rfl, ⟨nd, rfl⟩⟩
            refine ⟨_, rfl, ?_⟩
            refine hK.out _ _ ⟨(blk_cell BK231.out 0).trans rfl, (blk_cell BK231.out 1).trans rfl, (blk_cell BK231.out 2).trans rfl, (blk_cell BK231.out 3).trans rfl⟩ (fun hHeld => ?_)
            clear hK K
            refine norm_ (a' := ?_) ?_ ?_
            rotate_left
            · show Act.put _ (some 34) _ = _
              simp only [Act.put, List.setIfInBounds_toArray, List.set_cons_zero, List.set_cons_succ, i64_w, i32_w]
              rfl
            refine one_ (i := 4) (N := some 35) #[true, true, true, true, true, false] rfl rfl (by kernel_rfl) (by decide) (fun K hK => ?_)
            refine goes_ Try.func24 (by kernel_rfl) rfl #[.int .u64 a0_3, .int .u64 t235] (by rfl) rfl rfl (by (try simp only [List.map_toArray, List.map_cons, List.map_nil]); first | done | rfl | (simp only [List.length_drop, List.length_take]; rfl)) ?_
            with_reducible refine (wigwagref01_Add.calls a0_3 t235 t236 _ A25.out).mono ?_
            rintro e w' ⟨rfl, ⟨nd, rfl⟩⟩
            refine ⟨_, rfl, ?_⟩
            refine hK.out _ _ ⟨(blk_cell BK231.out 0).trans rfl, (blk_cell BK231.out 1).trans rfl, (blk_cell BK231.out 2).trans rfl, (blk_cell BK231.out 3).trans rfl⟩ (fun hHeld => ?_)
            clear hK K
            refine norm_ (a' := ?_) ?_ ?_
            rotate_left
            · show Act.put _ (some 35) _ = _
              simp only [Act.put, List.setIfInBounds_toArray, List.set_cons_zero, List.set_cons_succ, i64_w, i32_w]
              rfl
            refine pure_ (i := 5) (N := some 9) (v := ?_) (a' := ?_) #[true, true, true, true, true, true] rfl rfl (by kernel_rfl) (fun _ _ _ h => h) (Or.inl ⟨by rfl, ?_⟩) ?_ ?_
            rotate_left
            · intro w'
              go_simp
              with_reducible rfl
            rotate_left
            · simp only [Act.put, List.setIfInBounds_toArray, List.set_cons_zero, List.set_cons_succ, i64_w, i32_w]
              rfl
            refine done_ (by kernel_rfl) ?_
            have hcz32_0 : w31.cell? ⟨gb231, 0, none⟩ = some (.int .u64 a0_0) := (blk_cell BK231.out 0).trans rfl
            have hcz32_1 : w31.cell? ⟨gb231, 1, none⟩ = some (.int .u64 a0_1) := (blk_cell BK231.out 1).trans rfl
            have hcz32_2 : w31.cell? ⟨gb231, 2, none⟩ = some (.int .u64 a0_2) := (blk_cell BK231.out 2).trans rfl
            have hcz32_3 : w31.cell? ⟨gb231, 3, none⟩ = some (.int .u64 a0_3) := (blk_cell BK231.out 3).trans rfl
            have hfz32_0 := blk_frozen BK231.out 0
            have hfz32_1 := blk_frozen BK231.out 1
            have hfz32_2 := blk_frozen BK231.out 2
            have hfz32_3 := blk_frozen BK231.out 3
            try go_wp2
            (try (rw [drewN_self w31]; generalize hq_ : World.drewN w31 _ = w31; have n0_ : Aside0 (w31.heap[gb231]? = some (.cells #[.int .u64 a0_0, .int .u64 a0_1, .int .u64 a0_2, .int .u64 a0_3] 25 (0, 0))) := ⟨by rw [← hq_]; exact (by (with_reducible repeat (first | refine blk_drewN ?_ _ | refine blk_drew ?_ | refine blk_alloc ?_ _)); exact BK231.out)⟩; have n1_ : Aside0 (w31.heap[gb232]? = some (.cells #[.int .u64 0, .int .u64 0, .int .u64 0, .int .u64 0] 25 (0, 0))) := ⟨by rw [← hq_]; exact (by (with_reducible repeat (first | refine blk_drewN ?_ _ | refine blk_drew ?_ | refine blk_alloc ?_ _)); exact BK232.out)⟩; have n2_ : Aside0 (Below w.heap.size w w31) := ⟨by rw [← hq_]; exact (by repeat (first | (with_reducible first | exact HB.out | apply below_alloc | apply pw_below_drewN | apply below_drew1 | refine below_set ?_ GE231.out | refine below_set ?_ GE232.out) | exact HB.out))⟩; clear BK231 BK232 HB hq_; have BK231 := n0_; have BK232 := n1_; have HB := n2_; clear n0_ n1_ n2_))
            have n0_ := Aside0.mk (blk_drew BK231.out)
            have n1_ := Aside0.mk (blk_drew BK232.out)
            have n2_ := Aside0.mk (below_drew1 HB.out)
            clear BK231
            clear BK232
            clear HB
            have BK231 := n0_
            have BK232 := n1_
            have HB := n2_
            clear n0_ n1_ n2_
            refine start_ (n := 9) (S := fun w' => w'.cell? ⟨gb231, 0, none⟩ = some (.int .u64 a0_0) ∧ w'.cell? ⟨gb231, 1, none⟩ = some (.int .u64 a0_1) ∧ w'.cell? ⟨gb231, 2, none⟩ = some (.int .u64 a0_2) ∧ w'.cell? ⟨gb231, 3, none⟩ = some (.int .u64 a0_3)) (ds := [8]) #[false, false, false, false, false, false, false, false, false] (by kernel_rfl) rfl rfl ⟨(blk_cell BK231.out 0).trans rfl, (blk_cell BK231.out 1).trans rfl, (blk_cell BK231.out 2).trans rfl, (blk_cell BK231.out 3).trans rfl⟩ (fun hHeld => ?_); refine with_tabW wigwagref10_Ack.tab10 wigwagref10_Ack.bits10 (fun HT_ HW_ => ?_)
            generalize w31.drew = w33 at BK231 BK232 HB hHeld ⊢
            refine pure_ (i := 0) (N := some 40) (v := ?_) (a' := ?_) #[true, false, false, false, false, false, false, false, false] rfl rfl (any_of HT_.out (by kernel_rfl)) (fun _ _ _ h => h) (Or.inl ⟨by rfl, ?_⟩) ?_ ?_
            rotate_left
            · intro w'
              go_simp
              with_reducible rfl
            rotate_left
            · simp only [Act.put, List.setIfInBounds_toArray, List.set_cons_zero, List.set_cons_succ, i64_w, i32_w]
              rfl
            refine pure_ (i := 2) (N := some 42) (v := ?_) (a' := ?_) #[true, false, true, false, false, false, false, false, false] rfl rfl (any_of HT_.out (by kernel_rfl)) (fun _ _ _ h => h) (Or.inl ⟨by rfl, ?_⟩) ?_ ?_
            rotate_left
            · intro w'
              go_simp
              with_reducible rfl
            rotate_left
            · simp only [Act.put, List.setIfInBounds_toArray, List.set_cons_zero, List.set_cons_succ, i64_w, i32_w]
              rfl
            refine pure_ (i := 3) (N := some 43) (v := ?_) (a' := ?_) #[true, false, true, true, false, false, false, false, false] rfl rfl (any_of HT_.out (by kernel_rfl)) (fun _ _ _ h => h) (Or.inl ⟨by rfl, ?_⟩) ?_ ?_
            rotate_left
            · intro w'
              go_simp
              with_reducible rfl
            rotate_left
            · simp only [Act.put, List.setIfInBounds_toArray, List.set_cons_zero, List.set_cons_succ, i64_w, i32_w]
              rfl
            refine pure_ (i := 4) (N := some 44) (v := ?_) (a' := ?_) #[true, false, true, true, true, false, false, false, false] rfl rfl (any_of HT_.out (by kernel_rfl)) (fun _ _ _ h => h) (Or.inl ⟨by rfl, ?_⟩) ?_ ?_
            rotate_left
            · intro w'
              go_simp
              with_reducible rfl
            rotate_left
            · simp only [Act.put, List.setIfInBounds_toArray, List.set_cons_zero, List.set_cons_succ, i64_w, i32_w]
              rfl
            refine take_ (i := 1) (N := some 41) (v := ?_) (a' := ?_) #[true, true, true, true, true, false, false, false, false] rfl rfl (take_ofW HT_.out HW_.out (by kernel_rfl)) (fun _ _ _ h => h) (Or.inl ⟨by rfl, ?_⟩) hHeld ?_ ?_
            rotate_left
            · rintro w' ⟨s0, s1, s2, s3⟩
              go_simp
              with_reducible rfl
            rotate_left
            · simp only [Act.put, List.setIfInBounds_toArray, List.set_cons_zero, List.set_cons_succ, i64_w, i32_w]
              rfl
            refine one_ (i := 5) (N := some 45) #[true, true, true, true, true, true, false, false, false] rfl rfl (one_of HT_.out (by kernel_rfl)) (by decide) (fun K hK => ?_)
            refine goes_ Try.func24 (by kernel_rfl) rfl #[.int .u64 a0_0, .int .u64 (IntKind.u64.wrap (t236))] (by rfl) rfl rfl (by (try simp only [List.map_toArray, List.map_cons, List.map_nil]); first | done | rfl | (simp only [List.length_drop, List.length_take]; rfl)) ?_
            with_reducible refine (wigwagref01_Add.calls a0_0 (IntKind.u64.wrap (t236)) t237 _ A27.out).mono ?_
            rintro e w' ⟨rfl, ⟨nd, rfl⟩⟩
            refine ⟨_, rfl, ?_⟩
            refine hK.out _ _ ⟨(blk_cell BK231.out 0).trans rfl, (blk_cell BK231.out 1).trans rfl, (blk_cell BK231.out 2).trans rfl, (blk_cell BK231.out 3).trans rfl⟩ (fun hHeld => ?_)
            clear hK K
            refine norm_ (a' := ?_) ?_ ?_
            rotate_left
            · show Act.put _ (some 45) _ = _
              simp only [Act.put, List.setIfInBounds_toArray, List.set_cons_zero, List.set_cons_succ, i64_w, i32_w]
              rfl
            refine one_ (i := 6) (N := some 46) #[true, true, true, true, true, true, true, false, false] rfl rfl (one_of HT_.out (by kernel_rfl)) (by decide) (fun K hK => ?_)
            refine goes_ Try.func18 (by kernel_rfl) rfl #[.int .u64 t237] (by rfl) rfl rfl (by (try simp only [List.map_toArray, List.map_cons, List.map_nil]); first | done | rfl | (simp only [List.length_drop, List.length_take]; rfl)) ?_
            with_reducible refine (wigwagref10_Held.calls t237 t238 _ A28.out).mono ?_
            rintro e w' ⟨rfl, ⟨nd, rfl⟩⟩
            refine ⟨_, rfl, ?_⟩
            refine hK.out _ _ ⟨(blk_cell BK231.out 0).trans rfl, (blk_cell BK231.out 1).trans rfl, (blk_cell BK231.out 2).trans rfl, (blk_cell BK231.out 3).trans rfl⟩ (fun hHeld => ?_)
            clear hK K
            refine norm_ (a' := ?_) ?_ ?_
            rotate_left
            · show Act.put _ (some 46) _ = _
              simp only [Act.put, List.setIfInBounds_toArray, List.set_cons_zero, List.set_cons_succ, i64_w, i32_w]
              rfl
            refine pure_ (i := 7) (N := some 47) (v := ?_) (a' := ?_) #[true, true, true, true, true, true, true, true, false] rfl rfl (any_of HT_.out (by kernel_rfl)) (fun _ _ _ h => h) (Or.inl ⟨by rfl, ?_⟩) ?_ ?_
            rotate_left
            · intro w'
              go_simp
              with_reducible rfl
            rotate_left
            · simp only [Act.put, List.setIfInBounds_toArray, List.set_cons_zero, List.set_cons_succ, i64_w, i32_w]
              rfl
            refine last_ (i := 8) (N := none) #[true, true, true, true, true, true, true, true, true] rfl rfl (one_of HT_.out (by kernel_rfl)) (by decide) (fun K hK => ?_)
            have hs34 : w33.cell? ⟨gb231, 0, none⟩ = some (.int .u64 a0_0) := (blk_cell BK231.out 0).trans rfl
            have hfs34 := blk_frozen BK231.out 0
            have hns34_1 := NB232_231.out
            have hms34_1 := NB231_232.out
            refine skip_ (w1 := ?_) (by rfl) rfl ?_ ?_
            rotate_left
            · go_simp
              rfl
            refine hK.out _ _ ?_
            clear hK K
            refine done_ (done_of HT_.out (by kernel_rfl)) ?_
            have hcz35_0 : w33.cell? ⟨gb231, 0, none⟩ = some (.int .u64 a0_0) := (blk_cell BK231.out 0).trans rfl
            have hcz35_1 : w33.cell? ⟨gb231, 1, none⟩ = some (.int .u64 a0_1) := (blk_cell BK231.out 1).trans rfl
            have hcz35_2 : w33.cell? ⟨gb231, 2, none⟩ = some (.int .u64 a0_2) := (blk_cell BK231.out 2).trans rfl
            have hcz35_3 : w33.cell? ⟨gb231, 3, none⟩ = some (.int .u64 a0_3) := (blk_cell BK231.out 3).trans rfl
            have hfz35_0 := blk_frozen BK231.out 0
            have hfz35_1 := blk_frozen BK231.out 1
            have hfz35_2 := blk_frozen BK231.out 2
            have hfz35_3 := blk_frozen BK231.out 3
            have hcz36_0 : w33.cell? ⟨gb232, 0, none⟩ = some (.int .u64 0) := (blk_cell BK232.out 0).trans rfl
            have hcz36_1 : w33.cell? ⟨gb232, 1, none⟩ = some (.int .u64 0) := (blk_cell BK232.out 1).trans rfl
            have hcz36_2 : w33.cell? ⟨gb232, 2, none⟩ = some (.int .u64 0) := (blk_cell BK232.out 2).trans rfl
            have hcz36_3 : w33.cell? ⟨gb232, 3, none⟩ = some (.int .u64 0) := (blk_cell BK232.out 3).trans rfl
            have hfz36_0 := blk_frozen BK232.out 0
            have hfz36_1 := blk_frozen BK232.out 1
            have hfz36_2 := blk_frozen BK232.out 2
            have hfz36_3 := blk_frozen BK232.out 3
            try go_wp2
            refine bodyPost_ret (results_cell_row rfl _ _ gb232 25 #[.int .u64 t238, .int .u64 a0_1, .int .u64 a0_2, .int .u64 0] (0, 0) _ rfl (by (with_reducible repeat (first | refine blk_drewN ?_ _ | refine blk_drew ?_ | refine blk_alloc ?_ _)); refine blk_put (cs := #[.int .u64 t238, .int .u64 a0_1, .int .u64 a0_2, .int .u64 0]) ?_ 3 _ rfl; (with_reducible repeat (first | refine blk_drewN ?_ _ | refine blk_drew ?_ | refine blk_alloc ?_ _)); refine blk_put (cs := #[.int .u64 t238, .int .u64 a0_1, .int .u64 0, .int .u64 0]) ?_ 2 _ rfl; (with_reducible repeat (first | refine blk_drewN ?_ _ | refine blk_drew ?_ | refine blk_alloc ?_ _)); refine blk_put (cs := #[.int .u64 t238, .int .u64 0, .int .u64 0, .int .u64 0]) ?_ 1 _ rfl; (with_reducible repeat (first | refine blk_drewN ?_ _ | refine blk_drew ?_ | refine blk_alloc ?_ _)); refine blk_put (cs := #[.int .u64 0, .int .u64 0, .int .u64 0, .int .u64 0]) ?_ 0 _ rfl; (with_reducible repeat (first | refine blk_drewN ?_ _ | refine blk_drew ?_ | refine blk_alloc ?_ _)); refine blk_far ?_ NB232_231.out _; (with_reducible repeat (first | refine blk_drewN ?_ _ | refine blk_drew ?_ | refine blk_alloc ?_ _)); refine blk_far ?_ NB232_231.out _; (with_reducible repeat (first | refine blk_drewN ?_ _ | refine blk_drew ?_ | refine blk_alloc ?_ _)); exact BK232.out) Try.underlying25 rfl (by kernel_rfl)) rfl ?_
            exact ⟨by first | rfl | (simp [errW_none, errW_some] <;> rfl) | (simp [*, errW_none, errW_some] <;> rfl), by repeat (first | (with_reducible first | exact HB.out | apply below_alloc | apply pw_below_drewN | apply below_drew1 | refine below_set ?_ GE231.out | refine below_set ?_ GE232.out) | exact HB.out)⟩
          · rw [if_neg c26] at H
            have c26b0 : (a0_0 == 0) = false := beq_eq_false_iff_ne.mpr c26
            have c26b1 : (a0_0 != 0) = true := bne_iff_ne.mpr c26
            replace H := Option.bind_eq_some_iff.mp H
            obtain ⟨t239, A370, H⟩ := H
            replace H : ((wigwagref10_Held.f t239).bind fun t240 => (some (t240, a0_1, a0_2, Int.tmod t236 a0_0))) = some (r1, r2, r3, r4) := H
            have A37 := Aside0.mk A370
            clear A370
            replace H := Option.bind_eq_some_iff.mp H
            obtain ⟨t240, A380, H⟩ := H
            replace H : (some (t240, a0_1, a0_2, Int.tmod t236 a0_0)) = some (r1, r2, r3, r4) := H
            have A38 := Aside0.mk A380
            clear A380
            simp only [Option.some.injEq, Prod.mk.injEq] at H
            obtain ⟨rfl, rfl, rfl, rfl⟩ := H
            have hnb39 := NB231_232.out
            have hnc39 := NB232_231.out
            have hcz40_0 : wc.cell? ⟨gb231, 0, none⟩ = some (.int .u64 a0_0) := (blk_cell BK231.out 0).trans rfl
            have hcz40_1 : wc.cell? ⟨gb231, 1, none⟩ = some (.int .u64 a0_1) := (blk_cell BK231.out 1).trans rfl
            have hcz40_2 : wc.cell? ⟨gb231, 2, none⟩ = some (.int .u64 a0_2) := (blk_cell BK231.out 2).trans rfl
            have hcz40_3 : wc.cell? ⟨gb231, 3, none⟩ = some (.int .u64 a0_3) := (blk_cell BK231.out 3).trans rfl
            have hfz40_0 := blk_frozen BK231.out 0
            have hfz40_1 := blk_frozen BK231.out 1
            have hfz40_2 := blk_frozen BK231.out 2
            have hfz40_3 := blk_frozen BK231.out 3
            try go_wp2
            have n0_ := Aside0.mk (blk_drew BK231.out)
            have n1_ := Aside0.mk (blk_drew BK232.out)
            have n2_ := Aside0.mk (below_drew1 HB.out)
            clear BK231
            clear BK232
            clear HB
            have BK231 := n0_
            have BK232 := n1_
            have HB := n2_
            clear n0_ n1_ n2_
            refine start_ (n := 6) (S := fun w' => w'.cell? ⟨gb231, 0, none⟩ = some (.int .u64 a0_0) ∧ w'.cell? ⟨gb231, 1, none⟩ = some (.int .u64 a0_1) ∧ w'.cell? ⟨gb231, 2, none⟩ = some (.int .u64 a0_2) ∧ w'.cell? ⟨gb231, 3, none⟩ = some (.int .u64 a0_3)) (ds := []) #[false, false, false, false, false, false] (by kernel_rfl) rfl rfl ⟨(blk_cell BK231.out 0).trans rfl, (blk_cell BK231.out 1).trans rfl, (blk_cell BK231.out 2).trans rfl, (blk_cell BK231.out 3).trans rfl⟩ (fun hHeld => ?_)
            generalize wc.drew = w41 at BK231 BK232 HB hHeld ⊢
            refine pure_ (i := 0) (N := some 31) (v := ?_) (a' := ?_) #[true, false, false, false, false, false] rfl rfl (by kernel_rfl) (fun _ _ _ h => h) (Or.inl ⟨by rfl, ?_⟩) ?_ ?_
            rotate_left
            · intro w'
              go_simp
              with_reducible rfl
            rotate_left
            · simp only [Act.put, List.setIfInBounds_toArray, List.set_cons_zero, List.set_cons_succ, i64_w, i32_w]
              rfl
            refine pure_ (i := 2) (N := some 33) (v := ?_) (a' := ?_) #[true, false, true, false, false, false] rfl rfl (by kernel_rfl) (fun _ _ _ h => h) (Or.inl ⟨by rfl, ?_⟩) ?_ ?_
            rotate_left
            · intro w'
              go_simp
              with_reducible rfl
            rotate_left
            · simp only [Act.put, List.setIfInBounds_toArray, List.set_cons_zero, List.set_cons_succ, i64_w, i32_w]
              rfl
            refine take_ (i := 1) (N := some 32) (v := ?_) (a' := ?_) #[true, true, true, false, false, false] rfl rfl (by kernel_rfl) (fun _ _ _ h => h) (Or.inl ⟨by rfl, ?_⟩) hHeld ?_ ?_
            rotate_left
            · rintro w' ⟨s0, s1, s2, s3⟩
              go_simp
              with_reducible rfl
            rotate_left
            · simp only [Act.put, List.setIfInBounds_toArray, List.set_cons_zero, List.set_cons_succ, i64_w, i32_w]
              rfl
            refine one_ (i := 3) (N := some 34) #[true, true, true, true, false, false] rfl rfl (by kernel_rfl) (by decide) (fun K hK => ?_)
            refine goes_ Try.func25 (by kernel_rfl) rfl #[.int .u64 a1, .int .u64 1200] (by rfl) rfl rfl (by (try simp only [List.map_toArray, List.map_cons, List.map_nil]); first | done | rfl | (simp only [List.length_drop, List.length_take]; rfl)) ?_
            with_reducible refine (wigwagref01_Mul.calls a1 1200 t235 _ A24.out).mono ?_
            rintro e w' ⟨rfl, ⟨nd, rfl⟩⟩
            refine ⟨_, rfl, ?_⟩
            refine hK.out _ _ ⟨(blk_cell BK231.out 0).trans rfl, (blk_cell BK231.out 1).trans rfl, (blk_cell BK231.out 2).trans rfl, (blk_cell BK231.out 3).trans rfl⟩ (fun hHeld => ?_)
            clear hK K
            refine norm_ (a' := ?_) ?_ ?_
            rotate_left
            · show Act.put _ (some 34) _ = _
              simp only [Act.put, List.setIfInBounds_toArray, List.set_cons_zero, List.set_cons_succ, i64_w, i32_w]
              rfl
            refine one_ (i := 4) (N := some 35) #[true, true, true, true, true, false] rfl rfl (by kernel_rfl) (by decide) (fun K hK => ?_)
            refine goes_ Try.func24 (by kernel_rfl) rfl #[.int .u64 a0_3, .int .u64 t235] (by rfl) rfl rfl (by (try simp only [List.map_toArray, List.map_cons, List.map_nil]); first | done | rfl | (simp only [List.length_drop, List.length_take]; rfl)) ?_
            with_reducible refine (wigwagref01_Add.calls a0_3 t235 t236 _ A25.out).mono ?_
            rintro e w' ⟨rfl, ⟨nd, rfl⟩⟩
            refine ⟨_, rfl, ?_⟩
            refine hK.out _ _ ⟨(blk_cell BK231.out 0).trans rfl, (blk_cell BK231.out 1).trans rfl, (blk_cell BK231.out 2).trans rfl, (blk_cell BK231.out 3).trans rfl⟩ (fun hHeld => ?_)
            clear hK K
            refine norm_ (a' := ?_) ?_ ?_
            rotate_left
            · show Act.put _ (some 35) _ = _
              simp only [Act.put, List.setIfInBounds_toArray, List.set_cons_zero, List.set_cons_succ, i64_w, i32_w]
              rfl
            refine pure_ (i := 5) (N := some 9) (v := ?_) (a' := ?_) #[true, true, true, true, true, true] rfl rfl (by kernel_rfl) (fun _ _ _ h => h) (Or.inl ⟨by rfl, ?_⟩) ?_ ?_
            rotate_left
            · intro w'
              go_simp
              with_reducible rfl
            rotate_left
            · simp only [Act.put, List.setIfInBounds_toArray, List.set_cons_zero, List.set_cons_succ, i64_w, i32_w]
              rfl
            refine done_ (by kernel_rfl) ?_
            have hcz42_0 : w41.cell? ⟨gb231, 0, none⟩ = some (.int .u64 a0_0) := (blk_cell BK231.out 0).trans rfl
            have hcz42_1 : w41.cell? ⟨gb231, 1, none⟩ = some (.int .u64 a0_1) := (blk_cell BK231.out 1).trans rfl
            have hcz42_2 : w41.cell? ⟨gb231, 2, none⟩ = some (.int .u64 a0_2) := (blk_cell BK231.out 2).trans rfl
            have hcz42_3 : w41.cell? ⟨gb231, 3, none⟩ = some (.int .u64 a0_3) := (blk_cell BK231.out 3).trans rfl
            have hfz42_0 := blk_frozen BK231.out 0
            have hfz42_1 := blk_frozen BK231.out 1
            have hfz42_2 := blk_frozen BK231.out 2
            have hfz42_3 := blk_frozen BK231.out 3
            try go_wp2
            (try (rw [drewN_self w41]; generalize hq_ : World.drewN w41 _ = w41; have n0_ : Aside0 (w41.heap[gb231]? = some (.cells #[.int .u64 a0_0, .int .u64 a0_1, .int .u64 a0_2, .int .u64 a0_3] 25 (0, 0))) := ⟨by rw [← hq_]; exact (by (with_reducible repeat (first | refine blk_drewN ?_ _ | refine blk_drew ?_ | refine blk_alloc ?_ _)); exact BK231.out)⟩; have n1_ : Aside0 (w41.heap[gb232]? = some (.cells #[.int .u64 0, .int .u64 0, .int .u64 0, .int .u64 0] 25 (0, 0))) := ⟨by rw [← hq_]; exact (by (with_reducible repeat (first | refine blk_drewN ?_ _ | refine blk_drew ?_ | refine blk_alloc ?_ _)); exact BK232.out)⟩; have n2_ : Aside0 (Below w.heap.size w w41) := ⟨by rw [← hq_]; exact (by repeat (first | (with_reducible first | exact HB.out | apply below_alloc | apply pw_below_drewN | apply below_drew1 | refine below_set ?_ GE231.out | refine below_set ?_ GE232.out) | exact HB.out))⟩; clear BK231 BK232 HB hq_; have BK231 := n0_; have BK232 := n1_; have HB := n2_; clear n0_ n1_ n2_))
            have n0_ := Aside0.mk (blk_drew BK231.out)
            have n1_ := Aside0.mk (blk_drew BK232.out)
            have n2_ := Aside0.mk (below_drew1 HB.out)
            clear BK231
            clear BK232
            clear HB
            have BK231 := n0_
            have BK232 := n1_
            have HB := n2_
            clear n0_ n1_ n2_
            refine start_ (n := 9) (S := fun w' => w'.cell? ⟨gb231, 0, none⟩ = some (.int .u64 a0_0) ∧ w'.cell? ⟨gb231, 1, none⟩ = some (.int .u64 a0_1) ∧ w'.cell? ⟨gb231, 2, none⟩ = some (.int .u64 a0_2) ∧ w'.cell? ⟨gb231, 3, none⟩ = some (.int .u64 a0_3)) (ds := [8]) #[false, false, false, false, false, false, false, false, false] (by kernel_rfl) rfl rfl ⟨(blk_cell BK231.out 0).trans rfl, (blk_cell BK231.out 1).trans rfl, (blk_cell BK231.out 2).trans rfl, (blk_cell BK231.out 3).trans rfl⟩ (fun hHeld => ?_); refine with_tabW wigwagref10_Ack.tab10 wigwagref10_Ack.bits10 (fun HT_ HW_ => ?_)
            generalize w41.drew = w43 at BK231 BK232 HB hHeld ⊢
            refine pure_ (i := 0) (N := some 40) (v := ?_) (a' := ?_) #[true, false, false, false, false, false, false, false, false] rfl rfl (any_of HT_.out (by kernel_rfl)) (fun _ _ _ h => h) (Or.inl ⟨by rfl, ?_⟩) ?_ ?_
            rotate_left
            · intro w'
              go_simp
              with_reducible rfl
            rotate_left
            · simp only [Act.put, List.setIfInBounds_toArray, List.set_cons_zero, List.set_cons_succ, i64_w, i32_w]
              rfl
            refine pure_ (i := 2) (N := some 42) (v := ?_) (a' := ?_) #[true, false, true, false, false, false, false, false, false] rfl rfl (any_of HT_.out (by kernel_rfl)) (fun _ _ _ h => h) (Or.inl ⟨by rfl, ?_⟩) ?_ ?_
            rotate_left
            · intro w'
              go_simp
              with_reducible rfl
            rotate_left
            · simp only [Act.put, List.setIfInBounds_toArray, List.set_cons_zero, List.set_cons_succ, i64_w, i32_w]
              rfl
            refine pure_ (i := 3) (N := some 43) (v := ?_) (a' := ?_) #[true, false, true, true, false, false, false, false, false] rfl rfl (any_of HT_.out (by kernel_rfl)) (fun _ _ _ h => h) (Or.inl ⟨by rfl, ?_⟩) ?_ ?_
            rotate_left
            · intro w'
              go_simp
              with_reducible rfl
            rotate_left
            · simp only [Act.put, List.setIfInBounds_toArray, List.set_cons_zero, List.set_cons_succ, i64_w, i32_w]
              rfl
            refine pure_ (i := 4) (N := some 44) (v := ?_) (a' := ?_) #[true, false, true, true, true, false, false, false, false] rfl rfl (any_of HT_.out (by kernel_rfl)) (fun _ _ _ h => h) (Or.inl ⟨by rfl, ?_⟩) ?_ ?_
            rotate_left
            · intro w'
              go_simp
              with_reducible rfl
            rotate_left
            · simp only [Act.put, List.setIfInBounds_toArray, List.set_cons_zero, List.set_cons_succ, i64_w, i32_w]
              rfl
            refine take_ (i := 1) (N := some 41) (v := ?_) (a' := ?_) #[true, true, true, true, true, false, false, false, false] rfl rfl (take_ofW HT_.out HW_.out (by kernel_rfl)) (fun _ _ _ h => h) (Or.inl ⟨by rfl, ?_⟩) hHeld ?_ ?_
            rotate_left
            · rintro w' ⟨s0, s1, s2, s3⟩
              go_simp
              with_reducible rfl
            rotate_left
            · simp only [Act.put, List.setIfInBounds_toArray, List.set_cons_zero, List.set_cons_succ, i64_w, i32_w]
              rfl
            refine one_ (i := 5) (N := some 45) #[true, true, true, true, true, true, false, false, false] rfl rfl (one_of HT_.out (by kernel_rfl)) (by decide) (fun K hK => ?_)
            refine goes_ Try.func24 (by kernel_rfl) rfl #[.int .u64 a0_0, .int .u64 (IntKind.u64.wrap (Int.tdiv t236 a0_0))] (by rfl) rfl rfl (by (try simp only [List.map_toArray, List.map_cons, List.map_nil]); first | done | rfl | (simp only [List.length_drop, List.length_take]; rfl)) ?_
            with_reducible refine (wigwagref01_Add.calls a0_0 (IntKind.u64.wrap (Int.tdiv t236 a0_0)) t239 _ A37.out).mono ?_
            rintro e w' ⟨rfl, ⟨nd, rfl⟩⟩
            refine ⟨_, rfl, ?_⟩
            refine hK.out _ _ ⟨(blk_cell BK231.out 0).trans rfl, (blk_cell BK231.out 1).trans rfl, (blk_cell BK231.out 2).trans rfl, (blk_cell BK231.out 3).trans rfl⟩ (fun hHeld => ?_)
            clear hK K
            refine norm_ (a' := ?_) ?_ ?_
            rotate_left
            · show Act.put _ (some 45) _ = _
              simp only [Act.put, List.setIfInBounds_toArray, List.set_cons_zero, List.set_cons_succ, i64_w, i32_w]
              rfl
            refine one_ (i := 6) (N := some 46) #[true, true, true, true, true, true, true, false, false] rfl rfl (one_of HT_.out (by kernel_rfl)) (by decide) (fun K hK => ?_)
            refine goes_ Try.func18 (by kernel_rfl) rfl #[.int .u64 t239] (by rfl) rfl rfl (by (try simp only [List.map_toArray, List.map_cons, List.map_nil]); first | done | rfl | (simp only [List.length_drop, List.length_take]; rfl)) ?_
            with_reducible refine (wigwagref10_Held.calls t239 t240 _ A38.out).mono ?_
            rintro e w' ⟨rfl, ⟨nd, rfl⟩⟩
            refine ⟨_, rfl, ?_⟩
            refine hK.out _ _ ⟨(blk_cell BK231.out 0).trans rfl, (blk_cell BK231.out 1).trans rfl, (blk_cell BK231.out 2).trans rfl, (blk_cell BK231.out 3).trans rfl⟩ (fun hHeld => ?_)
            clear hK K
            refine norm_ (a' := ?_) ?_ ?_
            rotate_left
            · show Act.put _ (some 46) _ = _
              simp only [Act.put, List.setIfInBounds_toArray, List.set_cons_zero, List.set_cons_succ, i64_w, i32_w]
              rfl
            refine pure_ (i := 7) (N := some 47) (v := ?_) (a' := ?_) #[true, true, true, true, true, true, true, true, false] rfl rfl (any_of HT_.out (by kernel_rfl)) (fun _ _ _ h => h) (Or.inl ⟨by rfl, ?_⟩) ?_ ?_
            rotate_left
            · intro w'
              go_simp
              with_reducible rfl
            rotate_left
            · simp only [Act.put, List.setIfInBounds_toArray, List.set_cons_zero, List.set_cons_succ, i64_w, i32_w]
              rfl
            refine last_ (i := 8) (N := none) #[true, true, true, true, true, true, true, true, true] rfl rfl (one_of HT_.out (by kernel_rfl)) (by decide) (fun K hK => ?_)
            have hs44 : w43.cell? ⟨gb231, 0, none⟩ = some (.int .u64 a0_0) := (blk_cell BK231.out 0).trans rfl
            have hfs44 := blk_frozen BK231.out 0
            have hns44_1 := NB232_231.out
            have hms44_1 := NB231_232.out
            refine skip_ (w1 := ?_) (by rfl) rfl ?_ ?_
            rotate_left
            · go_simp
              rfl
            refine hK.out _ _ ?_
            clear hK K
            refine done_ (done_of HT_.out (by kernel_rfl)) ?_
            have hcz45_0 : w43.cell? ⟨gb231, 0, none⟩ = some (.int .u64 a0_0) := (blk_cell BK231.out 0).trans rfl
            have hcz45_1 : w43.cell? ⟨gb231, 1, none⟩ = some (.int .u64 a0_1) := (blk_cell BK231.out 1).trans rfl
            have hcz45_2 : w43.cell? ⟨gb231, 2, none⟩ = some (.int .u64 a0_2) := (blk_cell BK231.out 2).trans rfl
            have hcz45_3 : w43.cell? ⟨gb231, 3, none⟩ = some (.int .u64 a0_3) := (blk_cell BK231.out 3).trans rfl
            have hfz45_0 := blk_frozen BK231.out 0
            have hfz45_1 := blk_frozen BK231.out 1
            have hfz45_2 := blk_frozen BK231.out 2
            have hfz45_3 := blk_frozen BK231.out 3
            have hcz46_0 : w43.cell? ⟨gb232, 0, none⟩ = some (.int .u64 0) := (blk_cell BK232.out 0).trans rfl
            have hcz46_1 : w43.cell? ⟨gb232, 1, none⟩ = some (.int .u64 0) := (blk_cell BK232.out 1).trans rfl
            have hcz46_2 : w43.cell? ⟨gb232, 2, none⟩ = some (.int .u64 0) := (blk_cell BK232.out 2).trans rfl
            have hcz46_3 : w43.cell? ⟨gb232, 3, none⟩ = some (.int .u64 0) := (blk_cell BK232.out 3).trans rfl
            have hfz46_0 := blk_frozen BK232.out 0
            have hfz46_1 := blk_frozen BK232.out 1
            have hfz46_2 := blk_frozen BK232.out 2
            have hfz46_3 := blk_frozen BK232.out 3
            try go_wp2
            refine bodyPost_ret (results_cell_row rfl _ _ gb232 25 #[.int .u64 t240, .int .u64 a0_1, .int .u64 a0_2, .int .u64 (Int.tmod t236 a0_0)] (0, 0) _ rfl (by (with_reducible repeat (first | refine blk_drewN ?_ _ | refine blk_drew ?_ | refine blk_alloc ?_ _)); refine blk_put (cs := #[.int .u64 t240, .int .u64 a0_1, .int .u64 a0_2, .int .u64 0]) ?_ 3 _ rfl; (with_reducible repeat (first | refine blk_drewN ?_ _ | refine blk_drew ?_ | refine blk_alloc ?_ _)); refine blk_put (cs := #[.int .u64 t240, .int .u64 a0_1, .int .u64 0, .int .u64 0]) ?_ 2 _ rfl; (with_reducible repeat (first | refine blk_drewN ?_ _ | refine blk_drew ?_ | refine blk_alloc ?_ _)); refine blk_put (cs := #[.int .u64 t240, .int .u64 0, .int .u64 0, .int .u64 0]) ?_ 1 _ rfl; (with_reducible repeat (first | refine blk_drewN ?_ _ | refine blk_drew ?_ | refine blk_alloc ?_ _)); refine blk_put (cs := #[.int .u64 0, .int .u64 0, .int .u64 0, .int .u64 0]) ?_ 0 _ rfl; (with_reducible repeat (first | refine blk_drewN ?_ _ | refine blk_drew ?_ | refine blk_alloc ?_ _)); refine blk_far ?_ NB232_231.out _; (with_reducible repeat (first | refine blk_drewN ?_ _ | refine blk_drew ?_ | refine blk_alloc ?_ _)); refine blk_far ?_ NB232_231.out _; (with_reducible repeat (first | refine blk_drewN ?_ _ | refine blk_drew ?_ | refine blk_alloc ?_ _)); exact BK232.out) Try.underlying25 rfl (by kernel_rfl)) rfl ?_
            exact ⟨by first | rfl | (simp [errW_none, errW_some] <;> rfl) | (simp [*, errW_none, errW_some] <;> rfl), by repeat (first | (with_reducible first | exact HB.out | apply below_alloc | apply pw_below_drewN | apply below_drew1 | refine below_set ?_ GE231.out | refine below_set ?_ GE232.out) | exact HB.out)⟩

end Go.Proofs.Ytmajccpifkbdpaa.P
