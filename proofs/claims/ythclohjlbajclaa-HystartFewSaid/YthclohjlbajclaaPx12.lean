-- Printed for this claim by xprint.py of this session: contracts of this session's own stand in for what the print does not take
import Derived.Test.YthclohjlbajclaaPx0
import Derived.Test.YthclohjlbajclaaPx11
namespace Go.Proofs.Ythclohjlbajclaa.P
open Go.RowKit Go.Proofs.YthclohjlbajclaaW.PrintWords Go.Proofs.YthclohjlbajclaaW.PrintLast Go.Proofs.YthclohjlbajclaaW.PrintMore
attribute [local go_sem] max2_int min2_int max_two min_two max_three min_three max_four min_four   -- for this text's walks alone
set_option linter.unusedVariables false
set_option linter.unusedSimpArgs false

/-! ### wigwagref11_Sample: function 11 -/
mutual
def wigwagref11_Sample.j0 : Nat → Int → Int → Int → Int → Int → Int → Int → Int → Option (Int × Int × Int × Int × Int × Int × Int)
  | 0, _, _, _, _, _, _, _, _ => none
  | k + 1, x3, x218000, x218001, x218002, x218003, x218004, x218005, x218006 => if x218000 = 2 then (some (x218000, x218001, x218002, x218003, x218004, x218005, x218006)) else (if x3 < x218003 then (wigwagref11_Sample.j1 k x218000 x218001 x218002 x3 x218004 x218005 x218006) else (wigwagref11_Sample.j1 k x218000 x218001 x218002 x218003 x218004 x218005 x218006))
def wigwagref11_Sample.j1 : Nat → Int → Int → Int → Int → Int → Int → Int → Option (Int × Int × Int × Int × Int × Int × Int)
  | 0, _, _, _, _, _, _, _ => none
  | k + 1, x218000, x218001, x218002, x218003, x218004, x218005, x218006 => (wigwagref01_Add.f x218004 1).bind fun t226 => (if t226 < 8 then (wigwagref11_Sample.j2 k true x218000 x218001 x218002 x218003 t226 x218005 x218006) else (if x218003 = 18446744073709551615 then (wigwagref11_Sample.j2 k true x218000 x218001 x218002 x218003 t226 x218005 x218006) else (wigwagref11_Sample.j2 k (x218002 == 18446744073709551615) x218000 x218001 x218002 x218003 t226 x218005 x218006)))
def wigwagref11_Sample.j2 : Nat → Bool → Int → Int → Int → Int → Int → Int → Int → Option (Int × Int × Int × Int × Int × Int × Int)
  | 0, _, _, _, _, _, _, _, _ => none
  | k + 1, x46, x218000, x218001, x218002, x218003, x218004, x218005, x218006 => if x46 = true then (some (x218000, x218001, x218002, x218003, x218004, x218005, x218006)) else (if x218000 = 0 then ((wigwagref11_Limit.f x218002).bind fun t227 => ((wigwagref01_Add.f x218002 t227).bind fun t228 => (wigwagref11_Sample.j3 k (decide (x218003 ≥ t228)) x218000 x218001 x218002 x218003 x218004 x218005 x218006))) else (wigwagref11_Sample.j3 k false x218000 x218001 x218002 x218003 x218004 x218005 x218006))
def wigwagref11_Sample.j3 : Nat → Bool → Int → Int → Int → Int → Int → Int → Int → Option (Int × Int × Int × Int × Int × Int × Int)
  | 0, _, _, _, _, _, _, _, _ => none
  | k + 1, x61, x218000, x218001, x218002, x218003, x218004, x218005, x218006 => if x61 = true then (some (1, x218001, x218002, x218003, x218004, x218003, 0)) else (if x218000 = 1 then (if x218003 < x218005 then (some (0, x218001, x218002, x218003, x218004, 18446744073709551615, x218006)) else (some (x218000, x218001, x218002, x218003, x218004, x218005, x218006))) else (some (x218000, x218001, x218002, x218003, x218004, x218005, x218006)))
end
def wigwagref11_Sample.f (k : Nat) (a0_0 : Int) (a0_1 : Int) (a0_2 : Int) (a0_3 : Int) (a0_4 : Int) (a0_5 : Int) (a0_6 : Int) (a1 : Int) (a2 : Int) (a3 : Int) : Option (Int × Int × Int × Int × Int × Int × Int) := if a0_0 = 2 then (some (a0_0, a0_1, a0_2, a0_3, a0_4, a0_5, a0_6)) else (if a1 ≥ a0_1 then ((wigwagref11_round.f a0_0 a0_1 a0_2 a0_3 a0_4 a0_5 a0_6 a2).bind fun bt219 => (wigwagref11_Sample.j0 k a3 bt219.1 bt219.2.1 bt219.2.2.1 bt219.2.2.2.1 bt219.2.2.2.2.1 bt219.2.2.2.2.2.1 bt219.2.2.2.2.2.2)) else (wigwagref11_Sample.j0 k a3 a0_0 a0_1 a0_2 a0_3 a0_4 a0_5 a0_6))
theorem wigwagref11_Sample.mono_l : ∀ k, (∀ y0 y1 y2 y3 y4 y5 y6 y7, LeO (wigwagref11_Sample.j0 k y0 y1 y2 y3 y4 y5 y6 y7) (wigwagref11_Sample.j0 (k + 1) y0 y1 y2 y3 y4 y5 y6 y7)) ∧ (∀ y0 y1 y2 y3 y4 y5 y6, LeO (wigwagref11_Sample.j1 k y0 y1 y2 y3 y4 y5 y6) (wigwagref11_Sample.j1 (k + 1) y0 y1 y2 y3 y4 y5 y6)) ∧ (∀ y0 y1 y2 y3 y4 y5 y6 y7, LeO (wigwagref11_Sample.j2 k y0 y1 y2 y3 y4 y5 y6 y7) (wigwagref11_Sample.j2 (k + 1) y0 y1 y2 y3 y4 y5 y6 y7)) ∧ (∀ y0 y1 y2 y3 y4 y5 y6 y7, LeO (wigwagref11_Sample.j3 k y0 y1 y2 y3 y4 y5 y6 y7) (wigwagref11_Sample.j3 (k + 1) y0 y1 y2 y3 y4 y5 y6 y7))
  | 0 => ⟨fun _ _ _ _ _ _ _ _ r h => by simp [wigwagref11_Sample.j0] at h, fun _ _ _ _ _ _ _ r h => by simp [wigwagref11_Sample.j1] at h, fun _ _ _ _ _ _ _ _ r h => by simp [wigwagref11_Sample.j2] at h, fun _ _ _ _ _ _ _ _ r h => by simp [wigwagref11_Sample.j3] at h⟩
  | k + 1 => by
    obtain ⟨ih0, ih1, ih2, ih3⟩ := wigwagref11_Sample.mono_l k
    refine ⟨?_, ?_, ?_, ?_⟩
    · intro y0 y1 y2 y3 y4 y5 y6 y7
      unfold wigwagref11_Sample.j0
      repeat' first
      | (with_reducible exact ih0 _ _ _ _ _ _ _ _)
      | (with_reducible exact ih1 _ _ _ _ _ _ _)
      | (with_reducible exact ih2 _ _ _ _ _ _ _ _)
      | (with_reducible exact ih3 _ _ _ _ _ _ _ _)
      | (with_reducible exact LeO.refl _)
      | (with_reducible exact LeO.none _)
      | (with_reducible refine LeO.ite ?_ ?_)
      | (with_reducible refine LeO.bind ?_ (fun _ => ?_))
      | exact ih0 _ _ _ _ _ _ _ _
      | exact ih1 _ _ _ _ _ _ _
      | exact ih2 _ _ _ _ _ _ _ _
      | exact ih3 _ _ _ _ _ _ _ _
      | exact LeO.none _
      | refine LeO.ite ?_ ?_
      | refine LeO.bind ?_ (fun _ => ?_)
    · intro y0 y1 y2 y3 y4 y5 y6
      unfold wigwagref11_Sample.j1
      repeat' first
      | (with_reducible exact ih0 _ _ _ _ _ _ _ _)
      | (with_reducible exact ih1 _ _ _ _ _ _ _)
      | (with_reducible exact ih2 _ _ _ _ _ _ _ _)
      | (with_reducible exact ih3 _ _ _ _ _ _ _ _)
      | (with_reducible exact LeO.refl _)
      | (with_reducible exact LeO.none _)
      | (with_reducible refine LeO.ite ?_ ?_)
      | (with_reducible refine LeO.bind ?_ (fun _ => ?_))
      | exact ih0 _ _ _ _ _ _ _ _
      | exact ih1 _ _ _ _ _ _ _
      | exact ih2 _ _ _ _ _ _ _ _
      | exact ih3 _ _ _ _ _ _ _ _
      | exact LeO.none _
      | refine LeO.ite ?_ ?_
      | refine LeO.bind ?_ (fun _ => ?_)
    · intro y0 y1 y2 y3 y4 y5 y6 y7
      unfold wigwagref11_Sample.j2
      repeat' first
      | (with_reducible exact ih0 _ _ _ _ _ _ _ _)
      | (with_reducible exact ih1 _ _ _ _ _ _ _)
      | (with_reducible exact ih2 _ _ _ _ _ _ _ _)
      | (with_reducible exact ih3 _ _ _ _ _ _ _ _)
      | (with_reducible exact LeO.refl _)
      | (with_reducible exact LeO.none _)
      | (with_reducible refine LeO.ite ?_ ?_)
      | (with_reducible refine LeO.bind ?_ (fun _ => ?_))
      | exact ih0 _ _ _ _ _ _ _ _
      | exact ih1 _ _ _ _ _ _ _
      | exact ih2 _ _ _ _ _ _ _ _
      | exact ih3 _ _ _ _ _ _ _ _
      | exact LeO.none _
      | refine LeO.ite ?_ ?_
      | refine LeO.bind ?_ (fun _ => ?_)
    · intro y0 y1 y2 y3 y4 y5 y6 y7
      unfold wigwagref11_Sample.j3
      repeat' first
      | (with_reducible exact ih0 _ _ _ _ _ _ _ _)
      | (with_reducible exact ih1 _ _ _ _ _ _ _)
      | (with_reducible exact ih2 _ _ _ _ _ _ _ _)
      | (with_reducible exact ih3 _ _ _ _ _ _ _ _)
      | (with_reducible exact LeO.refl _)
      | (with_reducible exact LeO.none _)
      | (with_reducible refine LeO.ite ?_ ?_)
      | (with_reducible refine LeO.bind ?_ (fun _ => ?_))
      | exact ih0 _ _ _ _ _ _ _ _
      | exact ih1 _ _ _ _ _ _ _
      | exact ih2 _ _ _ _ _ _ _ _
      | exact ih3 _ _ _ _ _ _ _ _
      | exact LeO.none _
      | refine LeO.ite ?_ ?_
      | refine LeO.bind ?_ (fun _ => ?_)
theorem wigwagref11_Sample.mono : ∀ a0 a1 a2 a3 a4 a5 a6 a7 a8 a9 k, LeO (wigwagref11_Sample.f k a0 a1 a2 a3 a4 a5 a6 a7 a8 a9) (wigwagref11_Sample.f (k + 1) a0 a1 a2 a3 a4 a5 a6 a7 a8 a9) := by
  intro a0 a1 a2 a3 a4 a5 a6 a7 a8 a9 k
  obtain ⟨ih0, ih1, ih2, ih3⟩ := wigwagref11_Sample.mono_l k
  unfold wigwagref11_Sample.f
  repeat' first
      | (with_reducible exact ih0 _ _ _ _ _ _ _ _)
      | (with_reducible exact ih1 _ _ _ _ _ _ _)
      | (with_reducible exact ih2 _ _ _ _ _ _ _ _)
      | (with_reducible exact ih3 _ _ _ _ _ _ _ _)
      | (with_reducible exact LeO.refl _)
      | (with_reducible exact LeO.none _)
      | (with_reducible refine LeO.ite ?_ ?_)
      | (with_reducible refine LeO.bind ?_ (fun _ => ?_))
      | exact ih0 _ _ _ _ _ _ _ _
      | exact ih1 _ _ _ _ _ _ _
      | exact ih2 _ _ _ _ _ _ _ _
      | exact ih3 _ _ _ _ _ _ _ _
      | exact LeO.none _
      | refine LeO.ite ?_ ?_
      | refine LeO.bind ?_ (fun _ => ?_)
set_option maxHeartbeats 8000000 in
set_option maxRecDepth 100000 in
theorem wigwagref11_Sample.calls (k : Nat) (a0_0 : Int) (a0_1 : Int) (a0_2 : Int) (a0_3 : Int) (a0_4 : Int) (a0_5 : Int) (a0_6 : Int) (a1 : Int) (a2 : Int) (a3 : Int) (r1 : Int) (r2 : Int) (r3 : Int) (r4 : Int) (r5 : Int) (r6 : Int) (r7 : Int) (w : World) (h : wigwagref11_Sample.f k a0_0 a0_1 a0_2 a0_3 a0_4 a0_5 a0_6 a1 a2 a3 = some (r1, r2, r3, r4, r5, r6, r7)) :
    Calls Try.prog 11 #[.agg #[.int .i64 a0_0, .int .u64 a0_1, .int .u64 a0_2, .int .u64 a0_3, .int .u64 a0_4, .int .u64 a0_5, .int .u64 a0_6], .int .u64 a1, .int .u64 a2, .int .u64 a3] w fun e w' => e = .returned (.agg #[.int .i64 r1, .int .u64 r2, .int .u64 r3, .int .u64 r4, .int .u64 r5, .int .u64 r6, .int .u64 r7]) ∧ Below w.heap.size w w' := by
  have hu25 := Try.underlying25
  have HB := Aside0.mk (Below.refl w.heap.size w)
  have H : (if a0_0 = 2 then (some (a0_0, a0_1, a0_2, a0_3, a0_4, a0_5, a0_6)) else (if a1 ≥ a0_1 then ((wigwagref11_round.f a0_0 a0_1 a0_2 a0_3 a0_4 a0_5 a0_6 a2).bind fun bt219 => (wigwagref11_Sample.j0 k a3 bt219.1 bt219.2.1 bt219.2.2.1 bt219.2.2.2.1 bt219.2.2.2.2.1 bt219.2.2.2.2.2.1 bt219.2.2.2.2.2.2)) else (wigwagref11_Sample.j0 k a3 a0_0 a0_1 a0_2 a0_3 a0_4 a0_5 a0_6))) = some (r1, r2, r3, r4, r5, r6, r7) := h
  clear h
  by_cases c5 : a0_0 = 2
  · rw [if_pos c5] at H
    have c5b0 : (a0_0 == 2) = true := beq_iff_eq.mpr c5
    have c5b1 : (a0_0 != 2) = false := bne_eq_false_iff_eq.mpr c5
    clear c5
    simp only [Option.some.injEq, Prod.mk.injEq] at H
    obtain ⟨rfl, rfl, rfl, rfl, rfl, rfl, rfl⟩ := H
    go_enter Try.func11, Try.ntmps11
    go_wp2_with (first | ((with_reducible refine gate_dst (N := 4) rfl ?_); refine box_event ?hg (N := 4) ?hd (cs := #[.int .i64 a0_0, .int .u64 a0_1, .int .u64 a0_2, .int .u64 a0_3, .int .u64 a0_4, .int .u64 a0_5, .int .u64 a0_6]) (t := 25) ?hr ?_; (case hd => rfl); (case hg => rfl); (case hr => first | (go_simp; done) | (go_simp; rfl)); intro gb217 hg w6 hbox hb; have n0_ := Aside0.mk (below_step (by repeat (first | (with_reducible first | exact HB.out | apply below_alloc | apply pw_below_drewN | apply below_drew1) | exact HB.out)) hb); have n1_ := Aside0.mk (hbox); have n2_ := Aside0.mk ((by rw [hg]; exact (below_size (by repeat (first | (with_reducible first | exact HB.out | apply below_alloc | apply pw_below_drewN | apply below_drew1) | exact HB.out))) : w.heap.size ≤ gb217)); have n3_ := Aside0.mk ((by rw [hg]; exact (below_size (by repeat (first | (with_reducible first | exact HB.out | apply below_alloc | apply pw_below_drewN | apply below_drew1) | exact HB.out))) : w.heap.size ≤ gb217)); clear HB; have HB := n0_; have BK217 := n1_; have GW217 := n2_; have GE217 := n3_; clear n0_ n1_ n2_ n3_; clear hb hbox hg) | ((with_reducible refine gate_dst (N := 8) rfl ?_); refine box_event ?hg (N := 8) ?hd (cs := #[.int .i64 0, .int .u64 0, .int .u64 0, .int .u64 0, .int .u64 0, .int .u64 0, .int .u64 0]) (t := 25) ?hr ?_; (case hd => rfl); (case hg => rfl); (case hr => first | (go_simp; done) | (go_simp; rfl)); intro gb218 hg w7 hbox hb; have n0_ := Aside0.mk (blk_below (g := gb217) (o := .cells #[.int .i64 a0_0, .int .u64 a0_1, .int .u64 a0_2, .int .u64 a0_3, .int .u64 a0_4, .int .u64 a0_5, .int .u64 a0_6] 25 (0, 0)) (by (with_reducible repeat (first | refine blk_drewN ?_ _ | refine blk_drew ?_ | refine blk_alloc ?_ _)); exact BK217.out) hb); have n1_ := Aside0.mk (below_step (by repeat (first | (with_reducible first | exact HB.out | apply below_alloc | apply pw_below_drewN | apply below_drew1 | refine below_set ?_ GE217.out) | exact HB.out)) hb); have n2_ := Aside0.mk (hbox); have n3_ := Aside0.mk ((by rw [hg]; exact (below_size (by repeat (first | (with_reducible first | exact HB.out | apply below_alloc | apply pw_below_drewN | apply below_drew1 | refine below_set ?_ GE217.out) | exact HB.out))) : w.heap.size ≤ gb218)); have n4_ := Aside0.mk ((by rw [hg]; exact (below_size (by repeat (first | (with_reducible first | exact HB.out | apply below_alloc | apply pw_below_drewN | apply below_drew1 | refine below_set ?_ GE217.out) | exact HB.out))) : w.heap.size ≤ gb218)); have n5_ := Aside0.mk ((by rw [hg]; exact Nat.ne_of_lt (blk_lt (g := gb217) (o := .cells #[.int .i64 a0_0, .int .u64 a0_1, .int .u64 a0_2, .int .u64 a0_3, .int .u64 a0_4, .int .u64 a0_5, .int .u64 a0_6] 25 (0, 0)) (by (with_reducible repeat (first | refine blk_drewN ?_ _ | refine blk_drew ?_ | refine blk_alloc ?_ _)); exact BK217.out)) : gb217 ≠ gb218)); have n6_ := Aside0.mk ((by rw [hg]; exact Nat.ne_of_gt (blk_lt (g := gb217) (o := .cells #[.int .i64 a0_0, .int .u64 a0_1, .int .u64 a0_2, .int .u64 a0_3, .int .u64 a0_4, .int .u64 a0_5, .int .u64 a0_6] 25 (0, 0)) (by (with_reducible repeat (first | refine blk_drewN ?_ _ | refine blk_drew ?_ | refine blk_alloc ?_ _)); exact BK217.out)) : gb218 ≠ gb217)); clear BK217; clear HB; have BK217 := n0_; have HB := n1_; have BK218 := n2_; have GW218 := n3_; have GE218 := n4_; have NB217_218 := n5_; have NB218_217 := n6_; clear n0_ n1_ n2_ n3_ n4_ n5_ n6_; clear hb hbox hg; have hnb8 := NB217_218.out; have hnc8 := NB218_217.out; have hcz9_0 : w7.cell? ⟨gb217, 0, none⟩ = some (.int .i64 a0_0) := (blk_cell BK217.out 0).trans rfl; have hcz9_1 : w7.cell? ⟨gb217, 1, none⟩ = some (.int .u64 a0_1) := (blk_cell BK217.out 1).trans rfl; have hcz9_2 : w7.cell? ⟨gb217, 2, none⟩ = some (.int .u64 a0_2) := (blk_cell BK217.out 2).trans rfl; have hcz9_3 : w7.cell? ⟨gb217, 3, none⟩ = some (.int .u64 a0_3) := (blk_cell BK217.out 3).trans rfl; have hcz9_4 : w7.cell? ⟨gb217, 4, none⟩ = some (.int .u64 a0_4) := (blk_cell BK217.out 4).trans rfl; have hcz9_5 : w7.cell? ⟨gb217, 5, none⟩ = some (.int .u64 a0_5) := (blk_cell BK217.out 5).trans rfl; have hcz9_6 : w7.cell? ⟨gb217, 6, none⟩ = some (.int .u64 a0_6) := (blk_cell BK217.out 6).trans rfl; have hfz9_0 := blk_frozen BK217.out 0; have hfz9_1 := blk_frozen BK217.out 1; have hfz9_2 := blk_frozen BK217.out 2; have hfz9_3 := blk_frozen BK217.out 3; have hfz9_4 := blk_frozen BK217.out 4; have hfz9_5 := blk_frozen BK217.out 5; have hfz9_6 := blk_frozen BK217.out 6; have hcz10_0 : w7.cell? ⟨gb218, 0, none⟩ = some (.int .i64 0) := (blk_cell BK218.out 0).trans rfl; have hcz10_1 : w7.cell? ⟨gb218, 1, none⟩ = some (.int .u64 0) := (blk_cell BK218.out 1).trans rfl; have hcz10_2 : w7.cell? ⟨gb218, 2, none⟩ = some (.int .u64 0) := (blk_cell BK218.out 2).trans rfl; have hcz10_3 : w7.cell? ⟨gb218, 3, none⟩ = some (.int .u64 0) := (blk_cell BK218.out 3).trans rfl; have hcz10_4 : w7.cell? ⟨gb218, 4, none⟩ = some (.int .u64 0) := (blk_cell BK218.out 4).trans rfl; have hcz10_5 : w7.cell? ⟨gb218, 5, none⟩ = some (.int .u64 0) := (blk_cell BK218.out 5).trans rfl; have hcz10_6 : w7.cell? ⟨gb218, 6, none⟩ = some (.int .u64 0) := (blk_cell BK218.out 6).trans rfl; have hfz10_0 := blk_frozen BK218.out 0; have hfz10_1 := blk_frozen BK218.out 1; have hfz10_2 := blk_frozen BK218.out 2; have hfz10_3 := blk_frozen BK218.out 3; have hfz10_4 := blk_frozen BK218.out 4; have hfz10_5 := blk_frozen BK218.out 5; have hfz10_6 := blk_frozen BK218.out 6))
    repeat (go_quiet (first | ((with_reducible refine gate_dst (N := 4) rfl ?_); refine box_event ?hg (N := 4) ?hd (cs := #[.int .i64 a0_0, .int .u64 a0_1, .int .u64 a0_2, .int .u64 a0_3, .int .u64 a0_4, .int .u64 a0_5, .int .u64 a0_6]) (t := 25) ?hr ?_; (case hd => rfl); (case hg => rfl); (case hr => first | (go_simp; done) | (go_simp; rfl)); intro gb217 hg w6 hbox hb; have n0_ := Aside0.mk (below_step (by repeat (first | (with_reducible first | exact HB.out | apply below_alloc | apply pw_below_drewN | apply below_drew1) | exact HB.out)) hb); have n1_ := Aside0.mk (hbox); have n2_ := Aside0.mk ((by rw [hg]; exact (below_size (by repeat (first | (with_reducible first | exact HB.out | apply below_alloc | apply pw_below_drewN | apply below_drew1) | exact HB.out))) : w.heap.size ≤ gb217)); have n3_ := Aside0.mk ((by rw [hg]; exact (below_size (by repeat (first | (with_reducible first | exact HB.out | apply below_alloc | apply pw_below_drewN | apply below_drew1) | exact HB.out))) : w.heap.size ≤ gb217)); clear HB; have HB := n0_; have BK217 := n1_; have GW217 := n2_; have GE217 := n3_; clear n0_ n1_ n2_ n3_; clear hb hbox hg) | ((with_reducible refine gate_dst (N := 8) rfl ?_); refine box_event ?hg (N := 8) ?hd (cs := #[.int .i64 0, .int .u64 0, .int .u64 0, .int .u64 0, .int .u64 0, .int .u64 0, .int .u64 0]) (t := 25) ?hr ?_; (case hd => rfl); (case hg => rfl); (case hr => first | (go_simp; done) | (go_simp; rfl)); intro gb218 hg w7 hbox hb; have n0_ := Aside0.mk (blk_below (g := gb217) (o := .cells #[.int .i64 a0_0, .int .u64 a0_1, .int .u64 a0_2, .int .u64 a0_3, .int .u64 a0_4, .int .u64 a0_5, .int .u64 a0_6] 25 (0, 0)) (by (with_reducible repeat (first | refine blk_drewN ?_ _ | refine blk_drew ?_ | refine blk_alloc ?_ _)); exact BK217.out) hb); have n1_ := Aside0.mk (below_step (by repeat (first | (with_reducible first | exact HB.out | apply below_alloc | apply pw_below_drewN | apply below_drew1 | refine below_set ?_ GE217.out) | exact HB.out)) hb); have n2_ := Aside0.mk (hbox); have n3_ := Aside0.mk ((by rw [hg]; exact (below_size (by repeat (first | (with_reducible first | exact HB.out | apply below_alloc | apply pw_below_drewN | apply below_drew1 | refine below_set ?_ GE217.out) | exact HB.out))) : w.heap.size ≤ gb218)); have n4_ := Aside0.mk ((by rw [hg]; exact (below_size (by repeat (first | (with_reducible first | exact HB.out | apply below_alloc | apply pw_below_drewN | apply below_drew1 | refine below_set ?_ GE217.out) | exact HB.out))) : w.heap.size ≤ gb218)); have n5_ := Aside0.mk ((by rw [hg]; exact Nat.ne_of_lt (blk_lt (g := gb217) (o := .cells #[.int .i64 a0_0, .int .u64 a0_1, .int .u64 a0_2, .int .u64 a0_3, .int .u64 a0_4, .int .u64 a0_5, .int .u64 a0_6] 25 (0, 0)) (by (with_reducible repeat (first | refine blk_drewN ?_ _ | refine blk_drew ?_ | refine blk_alloc ?_ _)); exact BK217.out)) : gb217 ≠ gb218)); have n6_ := Aside0.mk ((by rw [hg]; exact Nat.ne_of_gt (blk_lt (g := gb217) (o := .cells #[.int .i64 a0_0, .int .u64 a0_1, .int .u64 a0_2, .int .u64 a0_3, .int .u64 a0_4, .int .u64 a0_5, .int .u64 a0_6] 25 (0, 0)) (by (with_reducible repeat (first | refine blk_drewN ?_ _ | refine blk_drew ?_ | refine blk_alloc ?_ _)); exact BK217.out)) : gb218 ≠ gb217)); clear BK217; clear HB; have BK217 := n0_; have HB := n1_; have BK218 := n2_; have GW218 := n3_; have GE218 := n4_; have NB217_218 := n5_; have NB218_217 := n6_; clear n0_ n1_ n2_ n3_ n4_ n5_ n6_; clear hb hbox hg; have hnb8 := NB217_218.out; have hnc8 := NB218_217.out; have hcz9_0 : w7.cell? ⟨gb217, 0, none⟩ = some (.int .i64 a0_0) := (blk_cell BK217.out 0).trans rfl; have hcz9_1 : w7.cell? ⟨gb217, 1, none⟩ = some (.int .u64 a0_1) := (blk_cell BK217.out 1).trans rfl; have hcz9_2 : w7.cell? ⟨gb217, 2, none⟩ = some (.int .u64 a0_2) := (blk_cell BK217.out 2).trans rfl; have hcz9_3 : w7.cell? ⟨gb217, 3, none⟩ = some (.int .u64 a0_3) := (blk_cell BK217.out 3).trans rfl; have hcz9_4 : w7.cell? ⟨gb217, 4, none⟩ = some (.int .u64 a0_4) := (blk_cell BK217.out 4).trans rfl; have hcz9_5 : w7.cell? ⟨gb217, 5, none⟩ = some (.int .u64 a0_5) := (blk_cell BK217.out 5).trans rfl; have hcz9_6 : w7.cell? ⟨gb217, 6, none⟩ = some (.int .u64 a0_6) := (blk_cell BK217.out 6).trans rfl; have hfz9_0 := blk_frozen BK217.out 0; have hfz9_1 := blk_frozen BK217.out 1; have hfz9_2 := blk_frozen BK217.out 2; have hfz9_3 := blk_frozen BK217.out 3; have hfz9_4 := blk_frozen BK217.out 4; have hfz9_5 := blk_frozen BK217.out 5; have hfz9_6 := blk_frozen BK217.out 6; have hcz10_0 : w7.cell? ⟨gb218, 0, none⟩ = some (.int .i64 0) := (blk_cell BK218.out 0).trans rfl; have hcz10_1 : w7.cell? ⟨gb218, 1, none⟩ = some (.int .u64 0) := (blk_cell BK218.out 1).trans rfl; have hcz10_2 : w7.cell? ⟨gb218, 2, none⟩ = some (.int .u64 0) := (blk_cell BK218.out 2).trans rfl; have hcz10_3 : w7.cell? ⟨gb218, 3, none⟩ = some (.int .u64 0) := (blk_cell BK218.out 3).trans rfl; have hcz10_4 : w7.cell? ⟨gb218, 4, none⟩ = some (.int .u64 0) := (blk_cell BK218.out 4).trans rfl; have hcz10_5 : w7.cell? ⟨gb218, 5, none⟩ = some (.int .u64 0) := (blk_cell BK218.out 5).trans rfl; have hcz10_6 : w7.cell? ⟨gb218, 6, none⟩ = some (.int .u64 0) := (blk_cell BK218.out 6).trans rfl; have hfz10_0 := blk_frozen BK218.out 0; have hfz10_1 := blk_frozen BK218.out 1; have hfz10_2 := blk_frozen BK218.out 2; have hfz10_3 := blk_frozen BK218.out 3; have hfz10_4 := blk_frozen BK218.out 4; have hfz10_5 := blk_frozen BK218.out 5; have hfz10_6 := blk_frozen BK218.out 6)); try go_wp2_with (first | ((with_reducible refine gate_dst (N := 4) rfl ?_); refine box_event ?hg (N := 4) ?hd (cs := #[.int .i64 a0_0, .int .u64 a0_1, .int .u64 a0_2, .int .u64 a0_3, .int .u64 a0_4, .int .u64 a0_5, .int .u64 a0_6]) (t := 25) ?hr ?_; (case hd => rfl); (case hg => rfl); (case hr => first | (go_simp; done) | (go_simp; rfl)); intro gb217 hg w6 hbox hb; have n0_ := Aside0.mk (below_step (by repeat (first | (with_reducible first | exact HB.out | apply below_alloc | apply pw_below_drewN | apply below_drew1) | exact HB.out)) hb); have n1_ := Aside0.mk (hbox); have n2_ := Aside0.mk ((by rw [hg]; exact (below_size (by repeat (first | (with_reducible first | exact HB.out | apply below_alloc | apply pw_below_drewN | apply below_drew1) | exact HB.out))) : w.heap.size ≤ gb217)); have n3_ := Aside0.mk ((by rw [hg]; exact (below_size (by repeat (first | (with_reducible first | exact HB.out | apply below_alloc | apply pw_below_drewN | apply below_drew1) | exact HB.out))) : w.heap.size ≤ gb217)); clear HB; have HB := n0_; have BK217 := n1_; have GW217 := n2_; have GE217 := n3_; clear n0_ n1_ n2_ n3_; clear hb hbox hg) | ((with_reducible refine gate_dst (N := 8) rfl ?_); refine box_event ?hg (N := 8) ?hd (cs := #[.int .i64 0, .int .u64 0, .int .u64 0, .int .u64 0, .int .u64 0, .int .u64 0, .int .u64 0]) (t := 25) ?hr ?_; (case hd => rfl); (case hg => rfl); (case hr => first | (go_simp; done) | (go_simp; rfl)); intro gb218 hg w7 hbox hb; have n0_ := Aside0.mk (blk_below (g := gb217) (o := .cells #[.int .i64 a0_0, .int .u64 a0_1, .int .u64 a0_2, .int .u64 a0_3, .int .u64 a0_4, .int .u64 a0_5, .int .u64 a0_6] 25 (0, 0)) (by (with_reducible repeat (first | refine blk_drewN ?_ _ | refine blk_drew ?_ | refine blk_alloc ?_ _)); exact BK217.out) hb); have n1_ := Aside0.mk (below_step (by repeat (first | (with_reducible first | exact HB.out | apply below_alloc | apply pw_below_drewN | apply below_drew1 | refine below_set ?_ GE217.out) | exact HB.out)) hb); have n2_ := Aside0.mk (hbox); have n3_ := Aside0.mk ((by rw [hg]; exact (below_size (by repeat (first | (with_reducible first | exact HB.out | apply below_alloc | apply pw_below_drewN | apply below_drew1 | refine below_set ?_ GE217.out) | exact HB.out))) : w.heap.size ≤ gb218)); have n4_ := Aside0.mk ((by rw [hg]; exact (below_size (by repeat (first | (with_reducible first | exact HB.out | apply below_alloc | apply pw_below_drewN | apply below_drew1 | refine below_set ?_ GE217.out) | exact HB.out))) : w.heap.size ≤ gb218)); have n5_ := Aside0.mk ((by rw [hg]; exact Nat.ne_of_lt (blk_lt (g := gb217) (o := .cells #[.int .i64 a0_0, .int .u64 a0_1, .int .u64 a0_2, .int .u64 a0_3, .int .u64 a0_4, .int .u64 a0_5, .int .u64 a0_6] 25 (0, 0)) (by (with_reducible repeat (first | refine blk_drewN ?_ _ | refine blk_drew ?_ | refine blk_alloc ?_ _)); exact BK217.out)) : gb217 ≠ gb218)); have n6_ := Aside0.mk ((by rw [hg]; exact Nat.ne_of_gt (blk_lt (g := gb217) (o := .cells #[.int .i64 a0_0, .int .u64 a0_1, .int .u64 a0_2, .int .u64 a0_3, .int .u64 a0_4, .int .u64 a0_5, .int .u64 a0_6] 25 (0, 0)) (by (with_reducible repeat (first | refine blk_drewN ?_ _ | refine blk_drew ?_ | refine blk_alloc ?_ _)); exact BK217.out)) : gb218 ≠ gb217)); clear BK217; clear HB; have BK217 := n0_; have HB := n1_; have BK218 := n2_; have GW218 := n3_; have GE218 := n4_; have NB217_218 := n5_; have NB218_217 := n6_; clear n0_ n1_ n2_ n3_ n4_ n5_ n6_; clear hb hbox hg; have hnb8 := NB217_218.out; have hnc8 := NB218_217.out; have hcz9_0 : w7.cell? ⟨gb217, 0, none⟩ = some (.int .i64 a0_0) := (blk_cell BK217.out 0).trans rfl; have hcz9_1 : w7.cell? ⟨gb217, 1, none⟩ = some (.int .u64 a0_1) := (blk_cell BK217.out 1).trans rfl; have hcz9_2 : w7.cell? ⟨gb217, 2, none⟩ = some (.int .u64 a0_2) := (blk_cell BK217.out 2).trans rfl; have hcz9_3 : w7.cell? ⟨gb217, 3, none⟩ = some (.int .u64 a0_3) := (blk_cell BK217.out 3).trans rfl; have hcz9_4 : w7.cell? ⟨gb217, 4, none⟩ = some (.int .u64 a0_4) := (blk_cell BK217.out 4).trans rfl; have hcz9_5 : w7.cell? ⟨gb217, 5, none⟩ = some (.int .u64 a0_5) := (blk_cell BK217.out 5).trans rfl; have hcz9_6 : w7.cell? ⟨gb217, 6, none⟩ = some (.int .u64 a0_6) := (blk_cell BK217.out 6).trans rfl; have hfz9_0 := blk_frozen BK217.out 0; have hfz9_1 := blk_frozen BK217.out 1; have hfz9_2 := blk_frozen BK217.out 2; have hfz9_3 := blk_frozen BK217.out 3; have hfz9_4 := blk_frozen BK217.out 4; have hfz9_5 := blk_frozen BK217.out 5; have hfz9_6 := blk_frozen BK217.out 6; have hcz10_0 : w7.cell? ⟨gb218, 0, none⟩ = some (.int .i64 0) := (blk_cell BK218.out 0).trans rfl; have hcz10_1 : w7.cell? ⟨gb218, 1, none⟩ = some (.int .u64 0) := (blk_cell BK218.out 1).trans rfl; have hcz10_2 : w7.cell? ⟨gb218, 2, none⟩ = some (.int .u64 0) := (blk_cell BK218.out 2).trans rfl; have hcz10_3 : w7.cell? ⟨gb218, 3, none⟩ = some (.int .u64 0) := (blk_cell BK218.out 3).trans rfl; have hcz10_4 : w7.cell? ⟨gb218, 4, none⟩ = some (.int .u64 0) := (blk_cell BK218.out 4).trans rfl; have hcz10_5 : w7.cell? ⟨gb218, 5, none⟩ = some (.int .u64 0) := (blk_cell BK218.out 5).trans rfl; have hcz10_6 : w7.cell? ⟨gb218, 6, none⟩ = some (.int .u64 0) := (blk_cell BK218.out 6).trans rfl; have hfz10_0 := blk_frozen BK218.out 0; have hfz10_1 := blk_frozen BK218.out 1; have hfz10_2 := blk_frozen BK218.out 2; have hfz10_3 := blk_frozen BK218.out 3; have hfz10_4 := blk_frozen BK218.out 4; have hfz10_5 := blk_frozen BK218.out 5; have hfz10_6 := blk_frozen BK218.out 6)))
    refine bodyPost_ret (results_cell_row rfl _ _ gb218 25 #[.int .i64 a0_0, .int .u64 a0_1, .int .u64 a0_2, .int .u64 a0_3, .int .u64 a0_4, .int .u64 a0_5, .int .u64 a0_6] (0, 0) _ rfl (by (with_reducible repeat (first | refine blk_drewN ?_ _ | refine blk_drew ?_ | refine blk_alloc ?_ _)); refine blk_put (cs := #[.int .i64 a0_0, .int .u64 a0_1, .int .u64 a0_2, .int .u64 a0_3, .int .u64 a0_4, .int .u64 a0_5, .int .u64 0]) ?_ 6 _ rfl; (with_reducible repeat (first | refine blk_drewN ?_ _ | refine blk_drew ?_ | refine blk_alloc ?_ _)); refine blk_put (cs := #[.int .i64 a0_0, .int .u64 a0_1, .int .u64 a0_2, .int .u64 a0_3, .int .u64 a0_4, .int .u64 0, .int .u64 0]) ?_ 5 _ rfl; (with_reducible repeat (first | refine blk_drewN ?_ _ | refine blk_drew ?_ | refine blk_alloc ?_ _)); refine blk_put (cs := #[.int .i64 a0_0, .int .u64 a0_1, .int .u64 a0_2, .int .u64 a0_3, .int .u64 0, .int .u64 0, .int .u64 0]) ?_ 4 _ rfl; (with_reducible repeat (first | refine blk_drewN ?_ _ | refine blk_drew ?_ | refine blk_alloc ?_ _)); refine blk_put (cs := #[.int .i64 a0_0, .int .u64 a0_1, .int .u64 a0_2, .int .u64 0, .int .u64 0, .int .u64 0, .int .u64 0]) ?_ 3 _ rfl; (with_reducible repeat (first | refine blk_drewN ?_ _ | refine blk_drew ?_ | refine blk_alloc ?_ _)); refine blk_put (cs := #[.int .i64 a0_0, .int .u64 a0_1, .int .u64 0, .int .u64 0, .int .u64 0, .int .u64 0, .int .u64 0]) ?_ 2 _ rfl; (with_reducible repeat (first | refine blk_drewN ?_ _ | refine blk_drew ?_ | refine blk_alloc ?_ _)); refine blk_put (cs := #[.int .i64 a0_0, .int .u64 0, .int .u64 0, .int .u64 0, .int .u64 0, .int .u64 0, .int .u64 0]) ?_ 1 _ rfl; (with_reducible repeat (first | refine blk_drewN ?_ _ | refine blk_drew ?_ | refine blk_alloc ?_ _)); refine blk_put (cs := #[.int .i64 0, .int .u64 0, .int .u64 0, .int .u64 0, .int .u64 0, .int .u64 0, .int .u64 0]) ?_ 0 _ rfl; (with_reducible repeat (first | refine blk_drewN ?_ _ | refine blk_drew ?_ | refine blk_alloc ?_ _)); exact BK218.out) Try.underlying25 rfl (by kernel_rfl)) rfl ?_
    exact ⟨by first | rfl | (simp [errW_none, errW_some] <;> rfl) | (simp [*, errW_none, errW_some] <;> rfl), by repeat (first | (with_reducible first | exact HB.out | apply below_alloc | apply pw_below_drewN | apply below_drew1 | refine below_set ?_ GE217.out | refine below_set ?_ GE218.out) | exact HB.out)⟩
  · rw [if_neg c5] at H
    have c5b0 : (a0_0 == 2) = false := beq_eq_false_iff_ne.mpr c5
    have c5b1 : (a0_0 != 2) = true := bne_iff_ne.mpr c5
    have HC11 := Aside0.mk H
    clear H
    go_enter Try.func11, Try.ntmps11
    go_upto_if 16 with (first | ((with_reducible refine gate_dst (N := 4) rfl ?_); refine box_event ?hg (N := 4) ?hd (cs := #[.int .i64 a0_0, .int .u64 a0_1, .int .u64 a0_2, .int .u64 a0_3, .int .u64 a0_4, .int .u64 a0_5, .int .u64 a0_6]) (t := 25) ?hr ?_; (case hd => rfl); (case hg => rfl); (case hr => first | (go_simp; done) | (go_simp; rfl)); intro gb217 hg w12 hbox hb; have n0_ := Aside0.mk (below_step (by repeat (first | (with_reducible first | exact HB.out | apply below_alloc | apply pw_below_drewN | apply below_drew1) | exact HB.out)) hb); have n1_ := Aside0.mk (hbox); have n2_ := Aside0.mk ((by rw [hg]; exact (below_size (by repeat (first | (with_reducible first | exact HB.out | apply below_alloc | apply pw_below_drewN | apply below_drew1) | exact HB.out))) : w.heap.size ≤ gb217)); have n3_ := Aside0.mk ((by rw [hg]; exact (below_size (by repeat (first | (with_reducible first | exact HB.out | apply below_alloc | apply pw_below_drewN | apply below_drew1) | exact HB.out))) : w.heap.size ≤ gb217)); clear HB; have HB := n0_; have BK217 := n1_; have GW217 := n2_; have GE217 := n3_; clear n0_ n1_ n2_ n3_; clear hb hbox hg) | ((with_reducible refine gate_dst (N := 8) rfl ?_); refine box_event ?hg (N := 8) ?hd (cs := #[.int .i64 0, .int .u64 0, .int .u64 0, .int .u64 0, .int .u64 0, .int .u64 0, .int .u64 0]) (t := 25) ?hr ?_; (case hd => rfl); (case hg => rfl); (case hr => first | (go_simp; done) | (go_simp; rfl)); intro gb218 hg w13 hbox hb; have n0_ := Aside0.mk (blk_below (g := gb217) (o := .cells #[.int .i64 a0_0, .int .u64 a0_1, .int .u64 a0_2, .int .u64 a0_3, .int .u64 a0_4, .int .u64 a0_5, .int .u64 a0_6] 25 (0, 0)) (by (with_reducible repeat (first | refine blk_drewN ?_ _ | refine blk_drew ?_ | refine blk_alloc ?_ _)); exact BK217.out) hb); have n1_ := Aside0.mk (below_step (by repeat (first | (with_reducible first | exact HB.out | apply below_alloc | apply pw_below_drewN | apply below_drew1 | refine below_set ?_ GE217.out) | exact HB.out)) hb); have n2_ := Aside0.mk (hbox); have n3_ := Aside0.mk ((by rw [hg]; exact (below_size (by repeat (first | (with_reducible first | exact HB.out | apply below_alloc | apply pw_below_drewN | apply below_drew1 | refine below_set ?_ GE217.out) | exact HB.out))) : w.heap.size ≤ gb218)); have n4_ := Aside0.mk ((by rw [hg]; exact (below_size (by repeat (first | (with_reducible first | exact HB.out | apply below_alloc | apply pw_below_drewN | apply below_drew1 | refine below_set ?_ GE217.out) | exact HB.out))) : w.heap.size ≤ gb218)); have n5_ := Aside0.mk ((by rw [hg]; exact Nat.ne_of_lt (blk_lt (g := gb217) (o := .cells #[.int .i64 a0_0, .int .u64 a0_1, .int .u64 a0_2, .int .u64 a0_3, .int .u64 a0_4, .int .u64 a0_5, .int .u64 a0_6] 25 (0, 0)) (by (with_reducible repeat (first | refine blk_drewN ?_ _ | refine blk_drew ?_ | refine blk_alloc ?_ _)); exact BK217.out)) : gb217 ≠ gb218)); have n6_ := Aside0.mk ((by rw [hg]; exact Nat.ne_of_gt (blk_lt (g := gb217) (o := .cells #[.int .i64 a0_0, .int .u64 a0_1, .int .u64 a0_2, .int .u64 a0_3, .int .u64 a0_4, .int .u64 a0_5, .int .u64 a0_6] 25 (0, 0)) (by (with_reducible repeat (first | refine blk_drewN ?_ _ | refine blk_drew ?_ | refine blk_alloc ?_ _)); exact BK217.out)) : gb218 ≠ gb217)); clear BK217; clear HB; have BK217 := n0_; have HB := n1_; have BK218 := n2_; have GW218 := n3_; have GE218 := n4_; have NB217_218 := n5_; have NB218_217 := n6_; clear n0_ n1_ n2_ n3_ n4_ n5_ n6_; clear hb hbox hg; have hnb14 := NB217_218.out; have hnc14 := NB218_217.out; have hcz15_0 : w13.cell? ⟨gb217, 0, none⟩ = some (.int .i64 a0_0) := (blk_cell BK217.out 0).trans rfl; have hcz15_1 : w13.cell? ⟨gb217, 1, none⟩ = some (.int .u64 a0_1) := (blk_cell BK217.out 1).trans rfl; have hcz15_2 : w13.cell? ⟨gb217, 2, none⟩ = some (.int .u64 a0_2) := (blk_cell BK217.out 2).trans rfl; have hcz15_3 : w13.cell? ⟨gb217, 3, none⟩ = some (.int .u64 a0_3) := (blk_cell BK217.out 3).trans rfl; have hcz15_4 : w13.cell? ⟨gb217, 4, none⟩ = some (.int .u64 a0_4) := (blk_cell BK217.out 4).trans rfl; have hcz15_5 : w13.cell? ⟨gb217, 5, none⟩ = some (.int .u64 a0_5) := (blk_cell BK217.out 5).trans rfl; have hcz15_6 : w13.cell? ⟨gb217, 6, none⟩ = some (.int .u64 a0_6) := (blk_cell BK217.out 6).trans rfl; have hfz15_0 := blk_frozen BK217.out 0; have hfz15_1 := blk_frozen BK217.out 1; have hfz15_2 := blk_frozen BK217.out 2; have hfz15_3 := blk_frozen BK217.out 3; have hfz15_4 := blk_frozen BK217.out 4; have hfz15_5 := blk_frozen BK217.out 5; have hfz15_6 := blk_frozen BK217.out 6))
    repeat (go_quiet (first | ((with_reducible refine gate_dst (N := 4) rfl ?_); refine box_event ?hg (N := 4) ?hd (cs := #[.int .i64 a0_0, .int .u64 a0_1, .int .u64 a0_2, .int .u64 a0_3, .int .u64 a0_4, .int .u64 a0_5, .int .u64 a0_6]) (t := 25) ?hr ?_; (case hd => rfl); (case hg => rfl); (case hr => first | (go_simp; done) | (go_simp; rfl)); intro gb217 hg w12 hbox hb; have n0_ := Aside0.mk (below_step (by repeat (first | (with_reducible first | exact HB.out | apply below_alloc | apply pw_below_drewN | apply below_drew1) | exact HB.out)) hb); have n1_ := Aside0.mk (hbox); have n2_ := Aside0.mk ((by rw [hg]; exact (below_size (by repeat (first | (with_reducible first | exact HB.out | apply below_alloc | apply pw_below_drewN | apply below_drew1) | exact HB.out))) : w.heap.size ≤ gb217)); have n3_ := Aside0.mk ((by rw [hg]; exact (below_size (by repeat (first | (with_reducible first | exact HB.out | apply below_alloc | apply pw_below_drewN | apply below_drew1) | exact HB.out))) : w.heap.size ≤ gb217)); clear HB; have HB := n0_; have BK217 := n1_; have GW217 := n2_; have GE217 := n3_; clear n0_ n1_ n2_ n3_; clear hb hbox hg) | ((with_reducible refine gate_dst (N := 8) rfl ?_); refine box_event ?hg (N := 8) ?hd (cs := #[.int .i64 0, .int .u64 0, .int .u64 0, .int .u64 0, .int .u64 0, .int .u64 0, .int .u64 0]) (t := 25) ?hr ?_; (case hd => rfl); (case hg => rfl); (case hr => first | (go_simp; done) | (go_simp; rfl)); intro gb218 hg w13 hbox hb; have n0_ := Aside0.mk (blk_below (g := gb217) (o := .cells #[.int .i64 a0_0, .int .u64 a0_1, .int .u64 a0_2, .int .u64 a0_3, .int .u64 a0_4, .int .u64 a0_5, .int .u64 a0_6] 25 (0, 0)) (by (with_reducible repeat (first | refine blk_drewN ?_ _ | refine blk_drew ?_ | refine blk_alloc ?_ _)); exact BK217.out) hb); have n1_ := Aside0.mk (below_step (by repeat (first | (with_reducible first | exact HB.out | apply below_alloc | apply pw_below_drewN | apply below_drew1 | refine below_set ?_ GE217.out) | exact HB.out)) hb); have n2_ := Aside0.mk (hbox); have n3_ := Aside0.mk ((by rw [hg]; exact (below_size (by repeat (first | (with_reducible first | exact HB.out | apply below_alloc | apply pw_below_drewN | apply below_drew1 | refine below_set ?_ GE217.out) | exact HB.out))) : w.heap.size ≤ gb218)); have n4_ := Aside0.mk ((by rw [hg]; exact (below_size (by repeat (first | (with_reducible first | exact HB.out | apply below_alloc | apply pw_below_drewN | apply below_drew1 | refine below_set ?_ GE217.out) | exact HB.out))) : w.heap.size ≤ gb218)); have n5_ := Aside0.mk ((by rw [hg]; exact Nat.ne_of_lt (blk_lt (g := gb217) (o := .cells #[.int .i64 a0_0, .int .u64 a0_1, .int .u64 a0_2, .int .u64 a0_3, .int .u64 a0_4, .int .u64 a0_5, .int .u64 a0_6] 25 (0, 0)) (by (with_reducible repeat (first | refine blk_drewN ?_ _ | refine blk_drew ?_ | refine blk_alloc ?_ _)); exact BK217.out)) : gb217 ≠ gb218)); have n6_ := Aside0.mk ((by rw [hg]; exact Nat.ne_of_gt (blk_lt (g := gb217) (o := .cells #[.int .i64 a0_0, .int .u64 a0_1, .int .u64 a0_2, .int .u64 a0_3, .int .u64 a0_4, .int .u64 a0_5, .int .u64 a0_6] 25 (0, 0)) (by (with_reducible repeat (first | refine blk_drewN ?_ _ | refine blk_drew ?_ | refine blk_alloc ?_ _)); exact BK217.out)) : gb218 ≠ gb217)); clear BK217; clear HB; have BK217 := n0_; have HB := n1_; have BK218 := n2_; have GW218 := n3_; have GE218 := n4_; have NB217_218 := n5_; have NB218_217 := n6_; clear n0_ n1_ n2_ n3_ n4_ n5_ n6_; clear hb hbox hg; have hnb14 := NB217_218.out; have hnc14 := NB218_217.out; have hcz15_0 : w13.cell? ⟨gb217, 0, none⟩ = some (.int .i64 a0_0) := (blk_cell BK217.out 0).trans rfl; have hcz15_1 : w13.cell? ⟨gb217, 1, none⟩ = some (.int .u64 a0_1) := (blk_cell BK217.out 1).trans rfl; have hcz15_2 : w13.cell? ⟨gb217, 2, none⟩ = some (.int .u64 a0_2) := (blk_cell BK217.out 2).trans rfl; have hcz15_3 : w13.cell? ⟨gb217, 3, none⟩ = some (.int .u64 a0_3) := (blk_cell BK217.out 3).trans rfl; have hcz15_4 : w13.cell? ⟨gb217, 4, none⟩ = some (.int .u64 a0_4) := (blk_cell BK217.out 4).trans rfl; have hcz15_5 : w13.cell? ⟨gb217, 5, none⟩ = some (.int .u64 a0_5) := (blk_cell BK217.out 5).trans rfl; have hcz15_6 : w13.cell? ⟨gb217, 6, none⟩ = some (.int .u64 a0_6) := (blk_cell BK217.out 6).trans rfl; have hfz15_0 := blk_frozen BK217.out 0; have hfz15_1 := blk_frozen BK217.out 1; have hfz15_2 := blk_frozen BK217.out 2; have hfz15_3 := blk_frozen BK217.out 3; have hfz15_4 := blk_frozen BK217.out 4; have hfz15_5 := blk_frozen BK217.out 5; have hfz15_6 := blk_frozen BK217.out 6)); go_upto_if 16 with (first | ((with_reducible refine gate_dst (N := 4) rfl ?_); refine box_event ?hg (N := 4) ?hd (cs := #[.int .i64 a0_0, .int .u64 a0_1, .int .u64 a0_2, .int .u64 a0_3, .int .u64 a0_4, .int .u64 a0_5, .int .u64 a0_6]) (t := 25) ?hr ?_; (case hd => rfl); (case hg => rfl); (case hr => first | (go_simp; done) | (go_simp; rfl)); intro gb217 hg w12 hbox hb; have n0_ := Aside0.mk (below_step (by repeat (first | (with_reducible first | exact HB.out | apply below_alloc | apply pw_below_drewN | apply below_drew1) | exact HB.out)) hb); have n1_ := Aside0.mk (hbox); have n2_ := Aside0.mk ((by rw [hg]; exact (below_size (by repeat (first | (with_reducible first | exact HB.out | apply below_alloc | apply pw_below_drewN | apply below_drew1) | exact HB.out))) : w.heap.size ≤ gb217)); have n3_ := Aside0.mk ((by rw [hg]; exact (below_size (by repeat (first | (with_reducible first | exact HB.out | apply below_alloc | apply pw_below_drewN | apply below_drew1) | exact HB.out))) : w.heap.size ≤ gb217)); clear HB; have HB := n0_; have BK217 := n1_; have GW217 := n2_; have GE217 := n3_; clear n0_ n1_ n2_ n3_; clear hb hbox hg) | ((with_reducible refine gate_dst (N := 8) rfl ?_); refine box_event ?hg (N := 8) ?hd (cs := #[.int .i64 0, .int .u64 0, .int .u64 0, .int .u64 0, .int .u64 0, .int .u64 0, .int .u64 0]) (t := 25) ?hr ?_; (case hd => rfl); (case hg => rfl); (case hr => first | (go_simp; done) | (go_simp; rfl)); intro gb218 hg w13 hbox hb; have n0_ := Aside0.mk (blk_below (g := gb217) (o := .cells #[.int .i64 a0_0, .int .u64 a0_1, .int .u64 a0_2, .int .u64 a0_3, .int .u64 a0_4, .int .u64 a0_5, .int .u64 a0_6] 25 (0, 0)) (by (with_reducible repeat (first | refine blk_drewN ?_ _ | refine blk_drew ?_ | refine blk_alloc ?_ _)); exact BK217.out) hb); have n1_ := Aside0.mk (below_step (by repeat (first | (with_reducible first | exact HB.out | apply below_alloc | apply pw_below_drewN | apply below_drew1 | refine below_set ?_ GE217.out) | exact HB.out)) hb); have n2_ := Aside0.mk (hbox); have n3_ := Aside0.mk ((by rw [hg]; exact (below_size (by repeat (first | (with_reducible first | exact HB.out | apply below_alloc | apply pw_below_drewN | apply below_drew1 | refine below_set ?_ GE217.out) | exact HB.out))) : w.heap.size ≤ gb218)); have n4_ := Aside0.mk ((by rw [hg]; exact (below_size (by repeat (first | (with_reducible first | exact HB.out | apply below_alloc | apply pw_below_drewN | apply below_drew1 | refine below_set ?_ GE217.out) | exact HB.out))) : w.heap.size ≤ gb218)); have n5_ := Aside0.mk ((by rw [hg]; exact Nat.ne_of_lt (blk_lt (g := gb217) (o := .cells #[.int .i64 a0_0, .int .u64 a0_1, .int .u64 a0_2, .int .u64 a0_3, .int .u64 a0_4, .int .u64 a0_5, .int .u64 a0_6] 25 (0, 0)) (by (with_reducible repeat (first | refine blk_drewN ?_ _ | refine blk_drew ?_ | refine blk_alloc ?_ _)); exact BK217.out)) : gb217 ≠ gb218)); have n6_ := Aside0.mk ((by rw [hg]; exact Nat.ne_of_gt (blk_lt (g := gb217) (o := .cells #[.int .i64 a0_0, .int .u64 a0_1, .int .u64 a0_2, .int .u64 a0_3, .int .u64 a0_4, .int .u64 a0_5, .int .u64 a0_6] 25 (0, 0)) (by (with_reducible repeat (first | refine blk_drewN ?_ _ | refine blk_drew ?_ | refine blk_alloc ?_ _)); exact BK217.out)) : gb218 ≠ gb217)); clear BK217; clear HB; have BK217 := n0_; have HB := n1_; have BK218 := n2_; have GW218 := n3_; have GE218 := n4_; have NB217_218 := n5_; have NB218_217 := n6_; clear n0_ n1_ n2_ n3_ n4_ n5_ n6_; clear hb hbox hg; have hnb14 := NB217_218.out; have hnc14 := NB218_217.out; have hcz15_0 : w13.cell? ⟨gb217, 0, none⟩ = some (.int .i64 a0_0) := (blk_cell BK217.out 0).trans rfl; have hcz15_1 : w13.cell? ⟨gb217, 1, none⟩ = some (.int .u64 a0_1) := (blk_cell BK217.out 1).trans rfl; have hcz15_2 : w13.cell? ⟨gb217, 2, none⟩ = some (.int .u64 a0_2) := (blk_cell BK217.out 2).trans rfl; have hcz15_3 : w13.cell? ⟨gb217, 3, none⟩ = some (.int .u64 a0_3) := (blk_cell BK217.out 3).trans rfl; have hcz15_4 : w13.cell? ⟨gb217, 4, none⟩ = some (.int .u64 a0_4) := (blk_cell BK217.out 4).trans rfl; have hcz15_5 : w13.cell? ⟨gb217, 5, none⟩ = some (.int .u64 a0_5) := (blk_cell BK217.out 5).trans rfl; have hcz15_6 : w13.cell? ⟨gb217, 6, none⟩ = some (.int .u64 a0_6) := (blk_cell BK217.out 6).trans rfl; have hfz15_0 := blk_frozen BK217.out 0; have hfz15_1 := blk_frozen BK217.out 1; have hfz15_2 := blk_frozen BK217.out 2; have hfz15_3 := blk_frozen BK217.out 3; have hfz15_4 := blk_frozen BK217.out 4; have hfz15_5 := blk_frozen BK217.out 5; have hfz15_6 := blk_frozen BK217.out 6)))
    (try simp only [Act.put, List.setIfInBounds_toArray, List.set_cons_zero, List.set_cons_succ])
    go_cut [] (fun wc => ∃ (kq : Nat) (x218000_10 : Int) (x218001_10 : Int) (x218002_10 : Int) (x218003_10 : Int) (x218004_10 : Int) (x218005_10 : Int) (x218006_10 : Int), Aside0 (wigwagref11_Sample.j0 kq a3 x218000_10 x218001_10 x218002_10 x218003_10 x218004_10 x218005_10 x218006_10 = some (r1, r2, r3, r4, r5, r6, r7)) ∧ Aside0 (kq ≤ k) ∧ Aside0 (wc.heap[gb217]? = some (.cells #[.int .i64 x218000_10, .int .u64 x218001_10, .int .u64 x218002_10, .int .u64 x218003_10, .int .u64 x218004_10, .int .u64 x218005_10, .int .u64 x218006_10] 25 (0, 0))) ∧ Aside0 (wc.heap[gb218]? = some (.cells #[.int .i64 0, .int .u64 0, .int .u64 0, .int .u64 0, .int .u64 0, .int .u64 0, .int .u64 0] 25 (0, 0))) ∧ Aside0 (Below w.heap.size w wc))
    case first =>
      have H := HC11.out
      clear HC11
      by_cases c16 : a1 ≥ a0_1
      · rw [if_pos c16] at H
        have c16b0 : decide (a0_1 ≤ a1) = true := decide_eq_true c16
        clear c16
        (first | rw [c16b0] | (simp only [i64_w, i32_w]; rw [c16b0]) | skip)
        replace H := Option.bind_eq_some_iff.mp H
        obtain ⟨⟨t219, t220, t221, t222, t223, t224, t225⟩, A170, H⟩ := H
        replace H : (wigwagref11_Sample.j0 k a3 t219 t220 t221 t222 t223 t224 t225) = some (r1, r2, r3, r4, r5, r6, r7) := H
        have A17 := Aside0.mk A170
        clear A170
        have H' := Aside0.mk H
        clear H
        have hnb18 := NB217_218.out
        have hnc18 := NB218_217.out
        have hcz19_0 : w13.cell? ⟨gb217, 0, none⟩ = some (.int .i64 a0_0) := (blk_cell BK217.out 0).trans rfl
        have hcz19_1 : w13.cell? ⟨gb217, 1, none⟩ = some (.int .u64 a0_1) := (blk_cell BK217.out 1).trans rfl
        have hcz19_2 : w13.cell? ⟨gb217, 2, none⟩ = some (.int .u64 a0_2) := (blk_cell BK217.out 2).trans rfl
        have hcz19_3 : w13.cell? ⟨gb217, 3, none⟩ = some (.int .u64 a0_3) := (blk_cell BK217.out 3).trans rfl
        have hcz19_4 : w13.cell? ⟨gb217, 4, none⟩ = some (.int .u64 a0_4) := (blk_cell BK217.out 4).trans rfl
        have hcz19_5 : w13.cell? ⟨gb217, 5, none⟩ = some (.int .u64 a0_5) := (blk_cell BK217.out 5).trans rfl
        have hcz19_6 : w13.cell? ⟨gb217, 6, none⟩ = some (.int .u64 a0_6) := (blk_cell BK217.out 6).trans rfl
        have hfz19_0 := blk_frozen BK217.out 0
        have hfz19_1 := blk_frozen BK217.out 1
        have hfz19_2 := blk_frozen BK217.out 2
        have hfz19_3 := blk_frozen BK217.out 3
        have hfz19_4 := blk_frozen BK217.out 4
        have hfz19_5 := blk_frozen BK217.out 5
        have hfz19_6 := blk_frozen BK217.out 6
        go_wp2_with (first | (go_at_call 20; (with_reducible refine (wigwagref11_round.calls a0_0 a0_1 a0_2 a0_3 a0_4 a0_5 a0_6 a2 t219 t220 t221 t222 t223 t224 t225 _ A17.out).mono ?_); rintro e w20 ⟨rfl, hb⟩; have n0_ := Aside0.mk (blk_below (g := gb217) (o := .cells #[.int .i64 a0_0, .int .u64 a0_1, .int .u64 a0_2, .int .u64 a0_3, .int .u64 a0_4, .int .u64 a0_5, .int .u64 a0_6] 25 (0, 0)) (by (with_reducible repeat (first | refine blk_drewN ?_ _ | refine blk_drew ?_ | refine blk_alloc ?_ _)); exact BK217.out) hb); have n1_ := Aside0.mk (blk_below (g := gb218) (o := .cells #[.int .i64 0, .int .u64 0, .int .u64 0, .int .u64 0, .int .u64 0, .int .u64 0, .int .u64 0] 25 (0, 0)) (by (with_reducible repeat (first | refine blk_drewN ?_ _ | refine blk_drew ?_ | refine blk_alloc ?_ _)); exact BK218.out) hb); have n2_ := Aside0.mk (below_step (by repeat (first | (with_reducible first | exact HB.out | apply below_alloc | apply pw_below_drewN | apply below_drew1 | refine below_set ?_ GE217.out | refine below_set ?_ GE218.out) | exact HB.out)) hb); clear BK217; clear BK218; clear HB; have BK217 := n0_; have BK218 := n1_; have HB := n2_; clear n0_ n1_ n2_; (try clear hb); (try clear hb2); (try clear hk); (try clear hi); have hcz21_0 : w20.cell? ⟨gb217, 0, none⟩ = some (.int .i64 a0_0) := (blk_cell BK217.out 0).trans rfl; have hcz21_1 : w20.cell? ⟨gb217, 1, none⟩ = some (.int .u64 a0_1) := (blk_cell BK217.out 1).trans rfl; have hcz21_2 : w20.cell? ⟨gb217, 2, none⟩ = some (.int .u64 a0_2) := (blk_cell BK217.out 2).trans rfl; have hcz21_3 : w20.cell? ⟨gb217, 3, none⟩ = some (.int .u64 a0_3) := (blk_cell BK217.out 3).trans rfl; have hcz21_4 : w20.cell? ⟨gb217, 4, none⟩ = some (.int .u64 a0_4) := (blk_cell BK217.out 4).trans rfl; have hcz21_5 : w20.cell? ⟨gb217, 5, none⟩ = some (.int .u64 a0_5) := (blk_cell BK217.out 5).trans rfl; have hcz21_6 : w20.cell? ⟨gb217, 6, none⟩ = some (.int .u64 a0_6) := (blk_cell BK217.out 6).trans rfl; have hfz21_0 := blk_frozen BK217.out 0; have hfz21_1 := blk_frozen BK217.out 1; have hfz21_2 := blk_frozen BK217.out 2; have hfz21_3 := blk_frozen BK217.out 3; have hfz21_4 := blk_frozen BK217.out 4; have hfz21_5 := blk_frozen BK217.out 5; have hfz21_6 := blk_frozen BK217.out 6))
        repeat (go_quiet (first | (go_at_call 20; (with_reducible refine (wigwagref11_round.calls a0_0 a0_1 a0_2 a0_3 a0_4 a0_5 a0_6 a2 t219 t220 t221 t222 t223 t224 t225 _ A17.out).mono ?_); rintro e w20 ⟨rfl, hb⟩; have n0_ := Aside0.mk (blk_below (g := gb217) (o := .cells #[.int .i64 a0_0, .int .u64 a0_1, .int .u64 a0_2, .int .u64 a0_3, .int .u64 a0_4, .int .u64 a0_5, .int .u64 a0_6] 25 (0, 0)) (by (with_reducible repeat (first | refine blk_drewN ?_ _ | refine blk_drew ?_ | refine blk_alloc ?_ _)); exact BK217.out) hb); have n1_ := Aside0.mk (blk_below (g := gb218) (o := .cells #[.int .i64 0, .int .u64 0, .int .u64 0, .int .u64 0, .int .u64 0, .int .u64 0, .int .u64 0] 25 (0, 0)) (by (with_reducible repeat (first | refine blk_drewN ?_ _ | refine blk_drew ?_ | refine blk_alloc ?_ _)); exact BK218.out) hb); have n2_ := Aside0.mk (below_step (by repeat (first | (with_reducible first | exact HB.out | apply below_alloc | apply pw_below_drewN | apply below_drew1 | refine below_set ?_ GE217.out | refine below_set ?_ GE218.out) | exact HB.out)) hb); clear BK217; clear BK218; clear HB; have BK217 := n0_; have BK218 := n1_; have HB := n2_; clear n0_ n1_ n2_; (try clear hb); (try clear hb2); (try clear hk); (try clear hi); have hcz21_0 : w20.cell? ⟨gb217, 0, none⟩ = some (.int .i64 a0_0) := (blk_cell BK217.out 0).trans rfl; have hcz21_1 : w20.cell? ⟨gb217, 1, none⟩ = some (.int .u64 a0_1) := (blk_cell BK217.out 1).trans rfl; have hcz21_2 : w20.cell? ⟨gb217, 2, none⟩ = some (.int .u64 a0_2) := (blk_cell BK217.out 2).trans rfl; have hcz21_3 : w20.cell? ⟨gb217, 3, none⟩ = some (.int .u64 a0_3) := (blk_cell BK217.out 3).trans rfl; have hcz21_4 : w20.cell? ⟨gb217, 4, none⟩ = some (.int .u64 a0_4) := (blk_cell BK217.out 4).trans rfl; have hcz21_5 : w20.cell? ⟨gb217, 5, none⟩ = some (.int .u64 a0_5) := (blk_cell BK217.out 5).trans rfl; have hcz21_6 : w20.cell? ⟨gb217, 6, none⟩ = some (.int .u64 a0_6) := (blk_cell BK217.out 6).trans rfl; have hfz21_0 := blk_frozen BK217.out 0; have hfz21_1 := blk_frozen BK217.out 1; have hfz21_2 := blk_frozen BK217.out 2; have hfz21_3 := blk_frozen BK217.out 3; have hfz21_4 := blk_frozen BK217.out 4; have hfz21_5 := blk_frozen BK217.out 5; have hfz21_6 := blk_frozen BK217.out 6)); try go_wp2_with (first | (go_at_call 20; (with_reducible refine (wigwagref11_round.calls a0_0 a0_1 a0_2 a0_3 a0_4 a0_5 a0_6 a2 t219 t220 t221 t222 t223 t224 t225 _ A17.out).mono ?_); rintro e w20 ⟨rfl, hb⟩; have n0_ := Aside0.mk (blk_below (g := gb217) (o := .cells #[.int .i64 a0_0, .int .u64 a0_1, .int .u64 a0_2, .int .u64 a0_3, .int .u64 a0_4, .int .u64 a0_5, .int .u64 a0_6] 25 (0, 0)) (by (with_reducible repeat (first | refine blk_drewN ?_ _ | refine blk_drew ?_ | refine blk_alloc ?_ _)); exact BK217.out) hb); have n1_ := Aside0.mk (blk_below (g := gb218) (o := .cells #[.int .i64 0, .int .u64 0, .int .u64 0, .int .u64 0, .int .u64 0, .int .u64 0, .int .u64 0] 25 (0, 0)) (by (with_reducible repeat (first | refine blk_drewN ?_ _ | refine blk_drew ?_ | refine blk_alloc ?_ _)); exact BK218.out) hb); have n2_ := Aside0.mk (below_step (by repeat (first | (with_reducible first | exact HB.out | apply below_alloc | apply pw_below_drewN | apply below_drew1 | refine below_set ?_ GE217.out | refine below_set ?_ GE218.out) | exact HB.out)) hb); clear BK217; clear BK218; clear HB; have BK217 := n0_; have BK218 := n1_; have HB := n2_; clear n0_ n1_ n2_; (try clear hb); (try clear hb2); (try clear hk); (try clear hi); have hcz21_0 : w20.cell? ⟨gb217, 0, none⟩ = some (.int .i64 a0_0) := (blk_cell BK217.out 0).trans rfl; have hcz21_1 : w20.cell? ⟨gb217, 1, none⟩ = some (.int .u64 a0_1) := (blk_cell BK217.out 1).trans rfl; have hcz21_2 : w20.cell? ⟨gb217, 2, none⟩ = some (.int .u64 a0_2) := (blk_cell BK217.out 2).trans rfl; have hcz21_3 : w20.cell? ⟨gb217, 3, none⟩ = some (.int .u64 a0_3) := (blk_cell BK217.out 3).trans rfl; have hcz21_4 : w20.cell? ⟨gb217, 4, none⟩ = some (.int .u64 a0_4) := (blk_cell BK217.out 4).trans rfl; have hcz21_5 : w20.cell? ⟨gb217, 5, none⟩ = some (.int .u64 a0_5) := (blk_cell BK217.out 5).trans rfl; have hcz21_6 : w20.cell? ⟨gb217, 6, none⟩ = some (.int .u64 a0_6) := (blk_cell BK217.out 6).trans rfl; have hfz21_0 := blk_frozen BK217.out 0; have hfz21_1 := blk_frozen BK217.out 1; have hfz21_2 := blk_frozen BK217.out 2; have hfz21_3 := blk_frozen BK217.out 3; have hfz21_4 := blk_frozen BK217.out 4; have hfz21_5 := blk_frozen BK217.out 5; have hfz21_6 := blk_frozen BK217.out 6)))
        go_meet
        case rel => exact ⟨_, (t219), (t220), (t221), (t222), (t223), (t224), (t225), H', ⟨by first | omega | exact Nat.le_refl _⟩, ⟨by (with_reducible repeat (first | refine blk_drewN ?_ _ | refine blk_drew ?_ | refine blk_alloc ?_ _)); refine blk_put (cs := #[.int .i64 t219, .int .u64 t220, .int .u64 t221, .int .u64 t222, .int .u64 t223, .int .u64 t224, .int .u64 a0_6]) ?_ 6 _ rfl; (with_reducible repeat (first | refine blk_drewN ?_ _ | refine blk_drew ?_ | refine blk_alloc ?_ _)); refine blk_put (cs := #[.int .i64 t219, .int .u64 t220, .int .u64 t221, .int .u64 t222, .int .u64 t223, .int .u64 a0_5, .int .u64 a0_6]) ?_ 5 _ rfl; (with_reducible repeat (first | refine blk_drewN ?_ _ | refine blk_drew ?_ | refine blk_alloc ?_ _)); refine blk_put (cs := #[.int .i64 t219, .int .u64 t220, .int .u64 t221, .int .u64 t222, .int .u64 a0_4, .int .u64 a0_5, .int .u64 a0_6]) ?_ 4 _ rfl; (with_reducible repeat (first | refine blk_drewN ?_ _ | refine blk_drew ?_ | refine blk_alloc ?_ _)); refine blk_put (cs := #[.int .i64 t219, .int .u64 t220, .int .u64 t221, .int .u64 a0_3, .int .u64 a0_4, .int .u64 a0_5, .int .u64 a0_6]) ?_ 3 _ rfl; (with_reducible repeat (first | refine blk_drewN ?_ _ | refine blk_drew ?_ | refine blk_alloc ?_ _)); refine blk_put (cs := #[.int .i64 t219, .int .u64 t220, .int .u64 a0_2, .int .u64 a0_3, .int .u64 a0_4, .int .u64 a0_5, .int .u64 a0_6]) ?_ 2 _ rfl; (with_reducible repeat (first | refine blk_drewN ?_ _ | refine blk_drew ?_ | refine blk_alloc ?_ _)); refine blk_put (cs := #[.int .i64 t219, .int .u64 a0_1, .int .u64 a0_2, .int .u64 a0_3, .int .u64 a0_4, .int .u64 a0_5, .int .u64 a0_6]) ?_ 1 _ rfl; (with_reducible repeat (first | refine blk_drewN ?_ _ | refine blk_drew ?_ | refine blk_alloc ?_ _)); refine blk_put (cs := #[.int .i64 a0_0, .int .u64 a0_1, .int .u64 a0_2, .int .u64 a0_3, .int .u64 a0_4, .int .u64 a0_5, .int .u64 a0_6]) ?_ 0 _ rfl; (with_reducible repeat (first | refine blk_drewN ?_ _ | refine blk_drew ?_ | refine blk_alloc ?_ _)); exact BK217.out⟩, ⟨by (with_reducible repeat (first | refine blk_drewN ?_ _ | refine blk_drew ?_ | refine blk_alloc ?_ _)); refine blk_far ?_ NB218_217.out _; (with_reducible repeat (first | refine blk_drewN ?_ _ | refine blk_drew ?_ | refine blk_alloc ?_ _)); refine blk_far ?_ NB218_217.out _; (with_reducible repeat (first | refine blk_drewN ?_ _ | refine blk_drew ?_ | refine blk_alloc ?_ _)); refine blk_far ?_ NB218_217.out _; (with_reducible repeat (first | refine blk_drewN ?_ _ | refine blk_drew ?_ | refine blk_alloc ?_ _)); refine blk_far ?_ NB218_217.out _; (with_reducible repeat (first | refine blk_drewN ?_ _ | refine blk_drew ?_ | refine blk_alloc ?_ _)); refine blk_far ?_ NB218_217.out _; (with_reducible repeat (first | refine blk_drewN ?_ _ | refine blk_drew ?_ | refine blk_alloc ?_ _)); refine blk_far ?_ NB218_217.out _; (with_reducible repeat (first | refine blk_drewN ?_ _ | refine blk_drew ?_ | refine blk_alloc ?_ _)); refine blk_far ?_ NB218_217.out _; (with_reducible repeat (first | refine blk_drewN ?_ _ | refine blk_drew ?_ | refine blk_alloc ?_ _)); exact BK218.out⟩, ⟨by repeat (first | (with_reducible first | exact HB.out | apply below_alloc | apply pw_below_drewN | apply below_drew1 | refine below_set ?_ GE217.out | refine below_set ?_ GE218.out) | exact HB.out)⟩⟩
      · rw [if_neg c16] at H
        have c16b0 : decide (a0_1 ≤ a1) = false := decide_eq_false c16
        clear c16
        (first | rw [c16b0] | (simp only [i64_w, i32_w]; rw [c16b0]) | skip)
        have H' := Aside0.mk H
        clear H
        go_wp2
        repeat (go_quiet (fail); try go_wp2)
        go_meet
        case rel => exact ⟨_, (a0_0), (a0_1), (a0_2), (a0_3), (a0_4), (a0_5), (a0_6), H', ⟨by first | omega | exact Nat.le_refl _⟩, ⟨by (with_reducible repeat (first | refine blk_drewN ?_ _ | refine blk_drew ?_ | refine blk_alloc ?_ _)); exact BK217.out⟩, ⟨by (with_reducible repeat (first | refine blk_drewN ?_ _ | refine blk_drew ?_ | refine blk_alloc ?_ _)); exact BK218.out⟩, ⟨by repeat (first | (with_reducible first | exact HB.out | apply below_alloc | apply pw_below_drewN | apply below_drew1 | refine below_set ?_ GE217.out | refine below_set ?_ GE218.out) | exact HB.out)⟩⟩
    case rest =>
      clear HC11
      try clear c1
      try clear p2
      try clear c5
      try clear c5b0
      try clear c5b1
      try clear c8
      try clear c11
      try clear c14
      try clear c16
      try clear c16b0
      try clear c18
      try clear hcz10_0
      try clear hcz10_1
      try clear hcz10_2
      try clear hcz10_3
      try clear hcz10_4
      try clear hcz10_5
      try clear hcz10_6
      try clear hcz15_0
      try clear hcz15_1
      try clear hcz15_2
      try clear hcz15_3
      try clear hcz15_4
      try clear hcz15_5
      try clear hcz15_6
      try clear hcz19_0
      try clear hcz19_1
      try clear hcz19_2
      try clear hcz19_3
      try clear hcz19_4
      try clear hcz19_5
      try clear hcz19_6
      try clear hcz21_0
      try clear hcz21_1
      try clear hcz21_2
      try clear hcz21_3
      try clear hcz21_4
      try clear hcz21_5
      try clear hcz21_6
      try clear hcz9_0
      try clear hcz9_1
      try clear hcz9_2
      try clear hcz9_3
      try clear hcz9_4
      try clear hcz9_5
      try clear hcz9_6
      try clear hfz10_0
      try clear hfz10_1
      try clear hfz10_2
      try clear hfz10_3
      try clear hfz10_4
      try clear hfz10_5
      try clear hfz10_6
      try clear hfz15_0
      try clear hfz15_1
      try clear hfz15_2
      try clear hfz15_3
      try clear hfz15_4
      try clear hfz15_5
      try clear hfz15_6
      try clear hfz19_0
      try clear hfz19_1
      try clear hfz19_2
      try clear hfz19_3
      try clear hfz19_4
      try clear hfz19_5
      try clear hfz19_6
      try clear hfz21_0
      try clear hfz21_1
      try clear hfz21_2
      try clear hfz21_3
      try clear hfz21_4
      try clear hfz21_5
      try clear hfz21_6
      try clear hfz9_0
      try clear hfz9_1
      try clear hfz9_2
      try clear hfz9_3
      try clear hfz9_4
      try clear hfz9_5
      try clear hfz9_6
      obtain ⟨kq, x218000_10, x218001_10, x218002_10, x218003_10, x218004_10, x218005_10, x218006_10, HA, HJ10, BK217, BK218, HB⟩ := hcut
      cases kq with
      | zero => exact absurd HA.out (by simp [wigwagref11_Sample.j0])
      | succ kj10 =>
        have H := HA.out
        clear HA
        simp only [wigwagref11_Sample.j0] at H
        by_cases c22 : x218000_10 = 2
        · rw [if_pos c22] at H
          have c22b0 : (x218000_10 == 2) = true := beq_iff_eq.mpr c22
          have c22b1 : (x218000_10 != 2) = false := bne_eq_false_iff_eq.mpr c22
          clear c22
          simp only [Option.some.injEq, Prod.mk.injEq] at H
          obtain ⟨rfl, rfl, rfl, rfl, rfl, rfl, rfl⟩ := H
          have hnb23 := NB217_218.out
          have hnc23 := NB218_217.out
          have hcz24_0 : wc.cell? ⟨gb217, 0, none⟩ = some (.int .i64 x218000_10) := (blk_cell BK217.out 0).trans rfl
          have hcz24_1 : wc.cell? ⟨gb217, 1, none⟩ = some (.int .u64 x218001_10) := (blk_cell BK217.out 1).trans rfl
          have hcz24_2 : wc.cell? ⟨gb217, 2, none⟩ = some (.int .u64 x218002_10) := (blk_cell BK217.out 2).trans rfl
          have hcz24_3 : wc.cell? ⟨gb217, 3, none⟩ = some (.int .u64 x218003_10) := (blk_cell BK217.out 3).trans rfl
          have hcz24_4 : wc.cell? ⟨gb217, 4, none⟩ = some (.int .u64 x218004_10) := (blk_cell BK217.out 4).trans rfl
          have hcz24_5 : wc.cell? ⟨gb217, 5, none⟩ = some (.int .u64 x218005_10) := (blk_cell BK217.out 5).trans rfl
          have hcz24_6 : wc.cell? ⟨gb217, 6, none⟩ = some (.int .u64 x218006_10) := (blk_cell BK217.out 6).trans rfl
          have hfz24_0 := blk_frozen BK217.out 0
          have hfz24_1 := blk_frozen BK217.out 1
          have hfz24_2 := blk_frozen BK217.out 2
          have hfz24_3 := blk_frozen BK217.out 3
          have hfz24_4 := blk_frozen BK217.out 4
          have hfz24_5 := blk_frozen BK217.out 5
          have hfz24_6 := blk_frozen BK217.out 6
          have hcz25_0 : wc.cell? ⟨gb218, 0, none⟩ = some (.int .i64 0) := (blk_cell BK218.out 0).trans rfl
          have hcz25_1 : wc.cell? ⟨gb218, 1, none⟩ = some (.int .u64 0) := (blk_cell BK218.out 1).trans rfl
          have hcz25_2 : wc.cell? ⟨gb218, 2, none⟩ = some (.int .u64 0) := (blk_cell BK218.out 2).trans rfl
          have hcz25_3 : wc.cell? ⟨gb218, 3, none⟩ = some (.int .u64 0) := (blk_cell BK218.out 3).trans rfl
          have hcz25_4 : wc.cell? ⟨gb218, 4, none⟩ = some (.int .u64 0) := (blk_cell BK218.out 4).trans rfl
          have hcz25_5 : wc.cell? ⟨gb218, 5, none⟩ = some (.int .u64 0) := (blk_cell BK218.out 5).trans rfl
          have hcz25_6 : wc.cell? ⟨gb218, 6, none⟩ = some (.int .u64 0) := (blk_cell BK218.out 6).trans rfl
          have hfz25_0 := blk_frozen BK218.out 0
          have hfz25_1 := blk_frozen BK218.out 1
          have hfz25_2 := blk_frozen BK218.out 2
          have hfz25_3 := blk_frozen BK218.out 3
          have hfz25_4 := blk_frozen BK218.out 4
          have hfz25_5 := blk_frozen BK218.out 5
          have hfz25_6 := blk_frozen BK218.out 6
          go_wp2
          repeat (go_quiet (fail); try go_wp2)
          refine bodyPost_ret (results_cell_row rfl _ _ gb218 25 #[.int .i64 x218000_10, .int .u64 x218001_10, .int .u64 x218002_10, .int .u64 x218003_10, .int .u64 x218004_10, .int .u64 x218005_10, .int .u64 x218006_10] (0, 0) _ rfl (by (with_reducible repeat (first | refine blk_drewN ?_ _ | refine blk_drew ?_ | refine blk_alloc ?_ _)); refine blk_put (cs := #[.int .i64 x218000_10, .int .u64 x218001_10, .int .u64 x218002_10, .int .u64 x218003_10, .int .u64 x218004_10, .int .u64 x218005_10, .int .u64 0]) ?_ 6 _ rfl; (with_reducible repeat (first | refine blk_drewN ?_ _ | refine blk_drew ?_ | refine blk_alloc ?_ _)); refine blk_put (cs := #[.int .i64 x218000_10, .int .u64 x218001_10, .int .u64 x218002_10, .int .u64 x218003_10, .int .u64 x218004_10, .int .u64 0, .int .u64 0]) ?_ 5 _ rfl; (with_reducible repeat (first | refine blk_drewN ?_ _ | refine blk_drew ?_ | refine blk_alloc ?_ _)); refine blk_put (cs := #[.int .i64 x218000_10, .int .u64 x218001_10, .int .u64 x218002_10, .int .u64 x218003_10, .int .u64 0, .int .u64 0, .int .u64 0]) ?_ 4 _ rfl; (with_reducible repeat (first | refine blk_drewN ?_ _ | refine blk_drew ?_ | refine blk_alloc ?_ _)); refine blk_put (cs := #[.int .i64 x218000_10, .int .u64 x218001_10, .int .u64 x218002_10, .int .u64 0, .int .u64 0, .int .u64 0, .int .u64 0]) ?_ 3 _ rfl; (with_reducible repeat (first | refine blk_drewN ?_ _ | refine blk_drew ?_ | refine blk_alloc ?_ _)); refine blk_put (cs := #[.int .i64 x218000_10, .int .u64 x218001_10, .int .u64 0, .int .u64 0, .int .u64 0, .int .u64 0, .int .u64 0]) ?_ 2 _ rfl; (with_reducible repeat (first | refine blk_drewN ?_ _ | refine blk_drew ?_ | refine blk_alloc ?_ _)); refine blk_put (cs := #[.int .i64 x218000_10, .int .u64 0, .int .u64 0, .int .u64 0, .int .u64 0, .int .u64 0, .int .u64 0]) ?_ 1 _ rfl; (with_reducible repeat (first | refine blk_drewN ?_ _ | refine blk_drew ?_ | refine blk_alloc ?_ _)); refine blk_put (cs := #[.int .i64 0, .int .u64 0, .int .u64 0, .int .u64 0, .int .u64 0, .int .u64 0, .int .u64 0]) ?_ 0 _ rfl; (with_reducible repeat (first | refine blk_drewN ?_ _ | refine blk_drew ?_ | refine blk_alloc ?_ _)); exact BK218.out) Try.underlying25 rfl (by kernel_rfl)) rfl ?_
          exact ⟨by first | rfl | (simp [errW_none, errW_some] <;> rfl) | (simp [*, errW_none, errW_some] <;> rfl), by repeat (first | (with_reducible first | exact HB.out | apply below_alloc | apply pw_below_drewN | apply below_drew1 | refine below_set ?_ GE217.out | refine below_set ?_ GE218.out) | exact HB.out)⟩
        · rw [if_neg c22] at H
          have c22b0 : (x218000_10 == 2) = false := beq_eq_false_iff_ne.mpr c22
          have c22b1 : (x218000_10 != 2) = true := bne_iff_ne.mpr c22
          have HC26 := Aside0.mk H
          clear H
          have hnb27 := NB217_218.out
          have hnc27 := NB218_217.out
          have hcz28_0 : wc.cell? ⟨gb217, 0, none⟩ = some (.int .i64 x218000_10) := (blk_cell BK217.out 0).trans rfl
          have hcz28_1 : wc.cell? ⟨gb217, 1, none⟩ = some (.int .u64 x218001_10) := (blk_cell BK217.out 1).trans rfl
          have hcz28_2 : wc.cell? ⟨gb217, 2, none⟩ = some (.int .u64 x218002_10) := (blk_cell BK217.out 2).trans rfl
          have hcz28_3 : wc.cell? ⟨gb217, 3, none⟩ = some (.int .u64 x218003_10) := (blk_cell BK217.out 3).trans rfl
          have hcz28_4 : wc.cell? ⟨gb217, 4, none⟩ = some (.int .u64 x218004_10) := (blk_cell BK217.out 4).trans rfl
          have hcz28_5 : wc.cell? ⟨gb217, 5, none⟩ = some (.int .u64 x218005_10) := (blk_cell BK217.out 5).trans rfl
          have hcz28_6 : wc.cell? ⟨gb217, 6, none⟩ = some (.int .u64 x218006_10) := (blk_cell BK217.out 6).trans rfl
          have hfz28_0 := blk_frozen BK217.out 0
          have hfz28_1 := blk_frozen BK217.out 1
          have hfz28_2 := blk_frozen BK217.out 2
          have hfz28_3 := blk_frozen BK217.out 3
          have hfz28_4 := blk_frozen BK217.out 4
          have hfz28_5 := blk_frozen BK217.out 5
          have hfz28_6 := blk_frozen BK217.out 6
          go_upto_if 27 with (fail)
          repeat (go_quiet (fail); go_upto_if 27 with (fail))
          go_cut [] (fun wc => ∃ (kq : Nat) (x218003_25 : Int), Aside0 (wigwagref11_Sample.j1 kq x218000_10 x218001_10 x218002_10 x218003_25 x218004_10 x218005_10 x218006_10 = some (r1, r2, r3, r4, r5, r6, r7)) ∧ Aside0 (kq ≤ kj10) ∧ Aside0 (wc.heap[gb217]? = some (.cells #[.int .i64 x218000_10, .int .u64 x218001_10, .int .u64 x218002_10, .int .u64 x218003_25, .int .u64 x218004_10, .int .u64 x218005_10, .int .u64 x218006_10] 25 (0, 0))) ∧ Aside0 (wc.heap[gb218]? = some (.cells #[.int .i64 0, .int .u64 0, .int .u64 0, .int .u64 0, .int .u64 0, .int .u64 0, .int .u64 0] 25 (0, 0))) ∧ Aside0 (Below w.heap.size w wc))
          case first =>
            have H := HC26.out
            clear HC26
            by_cases c29 : a3 < x218003_10
            · rw [if_pos c29] at H
              have c29b0 : decide (a3 < x218003_10) = true := decide_eq_true c29
              clear c29
              (first | rw [c29b0] | (simp only [i64_w, i32_w]; rw [c29b0]) | skip)
              have H' := Aside0.mk H
              clear H
              have hnb30 := NB217_218.out
              have hnc30 := NB218_217.out
              have hcz31_0 : wc.cell? ⟨gb217, 0, none⟩ = some (.int .i64 x218000_10) := (blk_cell BK217.out 0).trans rfl
              have hcz31_1 : wc.cell? ⟨gb217, 1, none⟩ = some (.int .u64 x218001_10) := (blk_cell BK217.out 1).trans rfl
              have hcz31_2 : wc.cell? ⟨gb217, 2, none⟩ = some (.int .u64 x218002_10) := (blk_cell BK217.out 2).trans rfl
              have hcz31_3 : wc.cell? ⟨gb217, 3, none⟩ = some (.int .u64 x218003_10) := (blk_cell BK217.out 3).trans rfl
              have hcz31_4 : wc.cell? ⟨gb217, 4, none⟩ = some (.int .u64 x218004_10) := (blk_cell BK217.out 4).trans rfl
              have hcz31_5 : wc.cell? ⟨gb217, 5, none⟩ = some (.int .u64 x218005_10) := (blk_cell BK217.out 5).trans rfl
              have hcz31_6 : wc.cell? ⟨gb217, 6, none⟩ = some (.int .u64 x218006_10) := (blk_cell BK217.out 6).trans rfl
              have hfz31_0 := blk_frozen BK217.out 0
              have hfz31_1 := blk_frozen BK217.out 1
              have hfz31_2 := blk_frozen BK217.out 2
              have hfz31_3 := blk_frozen BK217.out 3
              have hfz31_4 := blk_frozen BK217.out 4
              have hfz31_5 := blk_frozen BK217.out 5
              have hfz31_6 := blk_frozen BK217.out 6
              go_wp2
              repeat (go_quiet (fail); try go_wp2)
              go_meet
              case rel => exact ⟨_, (a3), H', ⟨by have := HJ10.out; first | omega | exact Nat.le_refl _⟩, ⟨by (with_reducible repeat (first | refine blk_drewN ?_ _ | refine blk_drew ?_ | refine blk_alloc ?_ _)); refine blk_put (cs := #[.int .i64 x218000_10, .int .u64 x218001_10, .int .u64 x218002_10, .int .u64 x218003_10, .int .u64 x218004_10, .int .u64 x218005_10, .int .u64 x218006_10]) ?_ 3 _ rfl; (with_reducible repeat (first | refine blk_drewN ?_ _ | refine blk_drew ?_ | refine blk_alloc ?_ _)); exact BK217.out⟩, ⟨by (with_reducible repeat (first | refine blk_drewN ?_ _ | refine blk_drew ?_ | refine blk_alloc ?_ _)); refine blk_far ?_ NB218_217.out _; (with_reducible repeat (first | refine blk_drewN ?_ _ | refine blk_drew ?_ | refine blk_alloc ?_ _)); exact BK218.out⟩, ⟨by repeat (first | (with_reducible first | exact HB.out | apply below_alloc | apply pw_below_drewN | apply below_drew1 | refine below_set ?_ GE217.out | refine below_set ?_ GE218.out) | exact HB.out)⟩⟩
            · rw [if_neg c29] at H
              have c29b0 : decide (a3 < x218003_10) = false := decide_eq_false c29
              clear c29
              (first | rw [c29b0] | (simp only [i64_w, i32_w]; rw [c29b0]) | skip)
              have H' := Aside0.mk H
              clear H
              go_wp2
              repeat (go_quiet (fail); try go_wp2)
              go_meet
              case rel => exact ⟨_, (x218003_10), H', ⟨by have := HJ10.out; first | omega | exact Nat.le_refl _⟩, ⟨by (with_reducible repeat (first | refine blk_drewN ?_ _ | refine blk_drew ?_ | refine blk_alloc ?_ _)); exact BK217.out⟩, ⟨by (with_reducible repeat (first | refine blk_drewN ?_ _ | refine blk_drew ?_ | refine blk_alloc ?_ _)); exact BK218.out⟩, ⟨by repeat (first | (with_reducible first | exact HB.out | apply below_alloc | apply pw_below_drewN | apply below_drew1 | refine below_set ?_ GE217.out | refine below_set ?_ GE218.out) | exact HB.out)⟩⟩
          case rest =>
            clear HC26
            try clear c1
            try clear c2
            try clear p2
            try clear c3
            try clear c5
            try clear c5b0
            try clear c5b1
            try clear c8
            try clear c11
            try clear c14
            try clear c16
            try clear c16b0
            try clear c18
            try clear c22
            try clear c22b0
            try clear c22b1
            try clear c23
            try clear c27
            try clear c29
            try clear c29b0
            try clear c30
            try clear hcz10_0
            try clear hcz10_1
            try clear hcz10_2
            try clear hcz10_3
            try clear hcz10_4
            try clear hcz10_5
            try clear hcz10_6
            try clear hcz15_0
            try clear hcz15_1
            try clear hcz15_2
            try clear hcz15_3
            try clear hcz15_4
            try clear hcz15_5
            try clear hcz15_6
            try clear hcz19_0
            try clear hcz19_1
            try clear hcz19_2
            try clear hcz19_3
            try clear hcz19_4
            try clear hcz19_5
            try clear hcz19_6
            try clear hcz21_0
            try clear hcz21_1
            try clear hcz21_2
            try clear hcz21_3
            try clear hcz21_4
            try clear hcz21_5
            try clear hcz21_6
            try clear hcz24_0
            try clear hcz24_1
            try clear hcz24_2
            try clear hcz24_3
            try clear hcz24_4
            try clear hcz24_5
            try clear hcz24_6
            try clear hcz25_0
            try clear hcz25_1
            try clear hcz25_2
            try clear hcz25_3
            try clear hcz25_4
            try clear hcz25_5
            try clear hcz25_6
            try clear hcz28_0
            try clear hcz28_1
            try clear hcz28_2
            try clear hcz28_3
            try clear hcz28_4
            try clear hcz28_5
            try clear hcz28_6
            try clear hcz31_0
            try clear hcz31_1
            try clear hcz31_2
            try clear hcz31_3
            try clear hcz31_4
            try clear hcz31_5
            try clear hcz31_6
            try clear hcz9_0
            try clear hcz9_1
            try clear hcz9_2
            try clear hcz9_3
            try clear hcz9_4
            try clear hcz9_5
            try clear hcz9_6
            try clear hfz10_0
            try clear hfz10_1
            try clear hfz10_2
            try clear hfz10_3
            try clear hfz10_4
            try clear hfz10_5
            try clear hfz10_6
            try clear hfz15_0
            try clear hfz15_1
            try clear hfz15_2
            try clear hfz15_3
            try clear hfz15_4
            try clear hfz15_5
            try clear hfz15_6
            try clear hfz19_0
            try clear hfz19_1
            try clear hfz19_2
            try clear hfz19_3
            try clear hfz19_4
            try clear hfz19_5
            try clear hfz19_6
            try clear hfz21_0
            try clear hfz21_1
            try clear hfz21_2
            try clear hfz21_3
            try clear hfz21_4
            try clear hfz21_5
            try clear hfz21_6
            try clear hfz24_0
            try clear hfz24_1
            try clear hfz24_2
            try clear hfz24_3
            try clear hfz24_4
            try clear hfz24_5
            try clear hfz24_6
            try clear hfz25_0
            try clear hfz25_1
            try clear hfz25_2
            try clear hfz25_3
            try clear hfz25_4
            try clear hfz25_5
            try clear hfz25_6
            try clear hfz28_0
            try clear hfz28_1
            try clear hfz28_2
            try clear hfz28_3
            try clear hfz28_4
            try clear hfz28_5
            try clear hfz28_6
            try clear hfz31_0
            try clear hfz31_1
            try clear hfz31_2
            try clear hfz31_3
            try clear hfz31_4
            try clear hfz31_5
            try clear hfz31_6
            try clear hfz9_0
            try clear hfz9_1
            try clear hfz9_2
            try clear hfz9_3
            try clear hfz9_4
            try clear hfz9_5
            try clear hfz9_6
            try clear p2
            obtain ⟨kq, x218003_25, HA, HJ25, BK217, BK218, HB⟩ := hcut
            cases kq with
            | zero => exact absurd HA.out (by simp [wigwagref11_Sample.j1])
            | succ kj25 =>
              have H := HA.out
              clear HA
              simp only [wigwagref11_Sample.j1] at H
              replace H := Option.bind_eq_some_iff.mp H
              obtain ⟨t226, A320, H⟩ := H
              replace H : (if t226 < 8 then (wigwagref11_Sample.j2 kj25 true x218000_10 x218001_10 x218002_10 x218003_25 t226 x218005_10 x218006_10) else (if x218003_25 = 18446744073709551615 then (wigwagref11_Sample.j2 kj25 true x218000_10 x218001_10 x218002_10 x218003_25 t226 x218005_10 x218006_10) else (wigwagref11_Sample.j2 kj25 (x218002_10 == 18446744073709551615) x218000_10 x218001_10 x218002_10 x218003_25 t226 x218005_10 x218006_10))) = some (r1, r2, r3, r4, r5, r6, r7) := H
              have A32 := Aside0.mk A320
              clear A320
              have HC33 := Aside0.mk H
              clear H
              have hnb34 := NB217_218.out
              have hnc34 := NB218_217.out
              have hcz35_0 : wc.cell? ⟨gb217, 0, none⟩ = some (.int .i64 x218000_10) := (blk_cell BK217.out 0).trans rfl
              have hcz35_1 : wc.cell? ⟨gb217, 1, none⟩ = some (.int .u64 x218001_10) := (blk_cell BK217.out 1).trans rfl
              have hcz35_2 : wc.cell? ⟨gb217, 2, none⟩ = some (.int .u64 x218002_10) := (blk_cell BK217.out 2).trans rfl
              have hcz35_3 : wc.cell? ⟨gb217, 3, none⟩ = some (.int .u64 x218003_25) := (blk_cell BK217.out 3).trans rfl
              have hcz35_4 : wc.cell? ⟨gb217, 4, none⟩ = some (.int .u64 x218004_10) := (blk_cell BK217.out 4).trans rfl
              have hcz35_5 : wc.cell? ⟨gb217, 5, none⟩ = some (.int .u64 x218005_10) := (blk_cell BK217.out 5).trans rfl
              have hcz35_6 : wc.cell? ⟨gb217, 6, none⟩ = some (.int .u64 x218006_10) := (blk_cell BK217.out 6).trans rfl
              have hfz35_0 := blk_frozen BK217.out 0
              have hfz35_1 := blk_frozen BK217.out 1
              have hfz35_2 := blk_frozen BK217.out 2
              have hfz35_3 := blk_frozen BK217.out 3
              have hfz35_4 := blk_frozen BK217.out 4
              have hfz35_5 := blk_frozen BK217.out 5
              have hfz35_6 := blk_frozen BK217.out 6
              go_upto_region 10 with (first | (go_at_call 21; (with_reducible refine (wigwagref01_Add.calls x218004_10 1 t226 _ A32.out).mono ?_); rintro e w' ⟨rfl, ⟨nd, rfl⟩⟩; (try first | exact ⟨rfl, _, World.drewN_drewN _ _ _⟩ | exact ⟨rfl, _, Eq.trans (World.drewN_drewN _ _ _) (congrArg (World.drewN _) (Nat.add_assoc _ _ _))⟩)))
              repeat (go_quiet (first | (go_at_call 21; (with_reducible refine (wigwagref01_Add.calls x218004_10 1 t226 _ A32.out).mono ?_); rintro e w' ⟨rfl, ⟨nd, rfl⟩⟩; (try first | exact ⟨rfl, _, World.drewN_drewN _ _ _⟩ | exact ⟨rfl, _, Eq.trans (World.drewN_drewN _ _ _) (congrArg (World.drewN _) (Nat.add_assoc _ _ _))⟩))); go_upto_region 10 with (first | (go_at_call 21; (with_reducible refine (wigwagref01_Add.calls x218004_10 1 t226 _ A32.out).mono ?_); rintro e w' ⟨rfl, ⟨nd, rfl⟩⟩; (try first | exact ⟨rfl, _, World.drewN_drewN _ _ _⟩ | exact ⟨rfl, _, Eq.trans (World.drewN_drewN _ _ _) (congrArg (World.drewN _) (Nat.add_assoc _ _ _))⟩))))
              (try simp only [Act.put, List.setIfInBounds_toArray, List.set_cons_zero, List.set_cons_succ])
              go_cut [46] (fun v46 wc => ∃ (kq : Nat) (x46_32 : Bool), v46 = .bool x46_32 ∧ Aside0 (wigwagref11_Sample.j2 kq x46_32 x218000_10 x218001_10 x218002_10 x218003_25 t226 x218005_10 x218006_10 = some (r1, r2, r3, r4, r5, r6, r7)) ∧ Aside0 (kq ≤ kj25) ∧ Aside0 (wc.heap[gb217]? = some (.cells #[.int .i64 x218000_10, .int .u64 x218001_10, .int .u64 x218002_10, .int .u64 x218003_25, .int .u64 t226, .int .u64 x218005_10, .int .u64 x218006_10] 25 (0, 0))) ∧ Aside0 (wc.heap[gb218]? = some (.cells #[.int .i64 0, .int .u64 0, .int .u64 0, .int .u64 0, .int .u64 0, .int .u64 0, .int .u64 0] 25 (0, 0))) ∧ Aside0 (Below w.heap.size w wc))
              case first =>
                have H := HC33.out
                clear HC33
                by_cases c36 : t226 < 8
                · rw [if_pos c36] at H
                  have c36b0 : decide (t226 < 8) = true := decide_eq_true c36
                  clear c36
                  (first | rw [c36b0] | (simp only [i64_w, i32_w]; rw [c36b0]) | skip)
                  have H' := Aside0.mk H
                  clear H
                  have hnb37 := NB217_218.out
                  have hnc37 := NB218_217.out
                  have hcz38_0 : wc.cell? ⟨gb217, 0, none⟩ = some (.int .i64 x218000_10) := (blk_cell BK217.out 0).trans rfl
                  have hcz38_1 : wc.cell? ⟨gb217, 1, none⟩ = some (.int .u64 x218001_10) := (blk_cell BK217.out 1).trans rfl
                  have hcz38_2 : wc.cell? ⟨gb217, 2, none⟩ = some (.int .u64 x218002_10) := (blk_cell BK217.out 2).trans rfl
                  have hcz38_3 : wc.cell? ⟨gb217, 3, none⟩ = some (.int .u64 x218003_25) := (blk_cell BK217.out 3).trans rfl
                  have hcz38_4 : wc.cell? ⟨gb217, 4, none⟩ = some (.int .u64 x218004_10) := (blk_cell BK217.out 4).trans rfl
                  have hcz38_5 : wc.cell? ⟨gb217, 5, none⟩ = some (.int .u64 x218005_10) := (blk_cell BK217.out 5).trans rfl
                  have hcz38_6 : wc.cell? ⟨gb217, 6, none⟩ = some (.int .u64 x218006_10) := (blk_cell BK217.out 6).trans rfl
                  have hfz38_0 := blk_frozen BK217.out 0
                  have hfz38_1 := blk_frozen BK217.out 1
                  have hfz38_2 := blk_frozen BK217.out 2
                  have hfz38_3 := blk_frozen BK217.out 3
                  have hfz38_4 := blk_frozen BK217.out 4
                  have hfz38_5 := blk_frozen BK217.out 5
                  have hfz38_6 := blk_frozen BK217.out 6
                  go_wp2
                  repeat (go_quiet (fail); try go_wp2)
                  go_meet
                  case rel => exact ⟨_, (true), (by first | rfl | (simp; done) | (simp [*]; done)), H', ⟨by have := HJ10.out; have := HJ25.out; first | omega | exact Nat.le_refl _⟩, ⟨by (with_reducible repeat (first | refine blk_drewN ?_ _ | refine blk_drew ?_ | refine blk_alloc ?_ _)); refine blk_put (cs := #[.int .i64 x218000_10, .int .u64 x218001_10, .int .u64 x218002_10, .int .u64 x218003_25, .int .u64 x218004_10, .int .u64 x218005_10, .int .u64 x218006_10]) ?_ 4 _ rfl; (with_reducible repeat (first | refine blk_drewN ?_ _ | refine blk_drew ?_ | refine blk_alloc ?_ _)); exact BK217.out⟩, ⟨by (with_reducible repeat (first | refine blk_drewN ?_ _ | refine blk_drew ?_ | refine blk_alloc ?_ _)); refine blk_far ?_ NB218_217.out _; (with_reducible repeat (first | refine blk_drewN ?_ _ | refine blk_drew ?_ | refine blk_alloc ?_ _)); exact BK218.out⟩, ⟨by repeat (first | (with_reducible first | exact HB.out | apply below_alloc | apply pw_below_drewN | apply below_drew1 | refine below_set ?_ GE217.out | refine below_set ?_ GE218.out) | exact HB.out)⟩⟩
                · rw [if_neg c36] at H
                  have c36b0 : decide (t226 < 8) = false := decide_eq_false c36
                  clear c36
                  (first | rw [c36b0] | (simp only [i64_w, i32_w]; rw [c36b0]) | skip)
                  by_cases c39 : x218003_25 = 18446744073709551615
                  · rw [if_pos c39] at H
                    have c39b0 : (x218003_25 == 18446744073709551615) = true := beq_iff_eq.mpr c39
                    have c39b1 : (x218003_25 != 18446744073709551615) = false := bne_eq_false_iff_eq.mpr c39
                    clear c39
                    have H' := Aside0.mk H
                    clear H
                    have hnb40 := NB217_218.out
                    have hnc40 := NB218_217.out
                    have hcz41_0 : wc.cell? ⟨gb217, 0, none⟩ = some (.int .i64 x218000_10) := (blk_cell BK217.out 0).trans rfl
                    have hcz41_1 : wc.cell? ⟨gb217, 1, none⟩ = some (.int .u64 x218001_10) := (blk_cell BK217.out 1).trans rfl
                    have hcz41_2 : wc.cell? ⟨gb217, 2, none⟩ = some (.int .u64 x218002_10) := (blk_cell BK217.out 2).trans rfl
                    have hcz41_3 : wc.cell? ⟨gb217, 3, none⟩ = some (.int .u64 x218003_25) := (blk_cell BK217.out 3).trans rfl
                    have hcz41_4 : wc.cell? ⟨gb217, 4, none⟩ = some (.int .u64 x218004_10) := (blk_cell BK217.out 4).trans rfl
                    have hcz41_5 : wc.cell? ⟨gb217, 5, none⟩ = some (.int .u64 x218005_10) := (blk_cell BK217.out 5).trans rfl
                    have hcz41_6 : wc.cell? ⟨gb217, 6, none⟩ = some (.int .u64 x218006_10) := (blk_cell BK217.out 6).trans rfl
                    have hfz41_0 := blk_frozen BK217.out 0
                    have hfz41_1 := blk_frozen BK217.out 1
                    have hfz41_2 := blk_frozen BK217.out 2
                    have hfz41_3 := blk_frozen BK217.out 3
                    have hfz41_4 := blk_frozen BK217.out 4
                    have hfz41_5 := blk_frozen BK217.out 5
                    have hfz41_6 := blk_frozen BK217.out 6
                    go_wp2
                    repeat (go_quiet (fail); try go_wp2)
                    go_meet
                    case rel => exact ⟨_, (true), (by first | rfl | (simp; done) | (simp [*]; done)), H', ⟨by have := HJ10.out; have := HJ25.out; first | omega | exact Nat.le_refl _⟩, ⟨by (with_reducible repeat (first | refine blk_drewN ?_ _ | refine blk_drew ?_ | refine blk_alloc ?_ _)); refine blk_put (cs := #[.int .i64 x218000_10, .int .u64 x218001_10, .int .u64 x218002_10, .int .u64 x218003_25, .int .u64 x218004_10, .int .u64 x218005_10, .int .u64 x218006_10]) ?_ 4 _ rfl; (with_reducible repeat (first | refine blk_drewN ?_ _ | refine blk_drew ?_ | refine blk_alloc ?_ _)); exact BK217.out⟩, ⟨by (with_reducible repeat (first | refine blk_drewN ?_ _ | refine blk_drew ?_ | refine blk_alloc ?_ _)); refine blk_far ?_ NB218_217.out _; (with_reducible repeat (first | refine blk_drewN ?_ _ | refine blk_drew ?_ | refine blk_alloc ?_ _)); exact BK218.out⟩, ⟨by repeat (first | (with_reducible first | exact HB.out | apply below_alloc | apply pw_below_drewN | apply below_drew1 | refine below_set ?_ GE217.out | refine below_set ?_ GE218.out) | exact HB.out)⟩⟩
                  · rw [if_neg c39] at H
                    have c39b0 : (x218003_25 == 18446744073709551615) = false := beq_eq_false_iff_ne.mpr c39
                    have c39b1 : (x218003_25 != 18446744073709551615) = true := bne_iff_ne.mpr c39
                    have H' := Aside0.mk H
                    clear H
                    have hnb42 := NB217_218.out
                    have hnc42 := NB218_217.out
                    have hcz43_0 : wc.cell? ⟨gb217, 0, none⟩ = some (.int .i64 x218000_10) := (blk_cell BK217.out 0).trans rfl
                    have hcz43_1 : wc.cell? ⟨gb217, 1, none⟩ = some (.int .u64 x218001_10) := (blk_cell BK217.out 1).trans rfl
                    have hcz43_2 : wc.cell? ⟨gb217, 2, none⟩ = some (.int .u64 x218002_10) := (blk_cell BK217.out 2).trans rfl
                    have hcz43_3 : wc.cell? ⟨gb217, 3, none⟩ = some (.int .u64 x218003_25) := (blk_cell BK217.out 3).trans rfl
                    have hcz43_4 : wc.cell? ⟨gb217, 4, none⟩ = some (.int .u64 x218004_10) := (blk_cell BK217.out 4).trans rfl
                    have hcz43_5 : wc.cell? ⟨gb217, 5, none⟩ = some (.int .u64 x218005_10) := (blk_cell BK217.out 5).trans rfl
                    have hcz43_6 : wc.cell? ⟨gb217, 6, none⟩ = some (.int .u64 x218006_10) := (blk_cell BK217.out 6).trans rfl
                    have hfz43_0 := blk_frozen BK217.out 0
                    have hfz43_1 := blk_frozen BK217.out 1
                    have hfz43_2 := blk_frozen BK217.out 2
                    have hfz43_3 := blk_frozen BK217.out 3
                    have hfz43_4 := blk_frozen BK217.out 4
                    have hfz43_5 := blk_frozen BK217.out 5
                    have hfz43_6 := blk_frozen BK217.out 6
                    go_wp2
                    repeat (go_quiet (fail); try go_wp2)
                    go_meet
                    case rel => exact ⟨_, ((x218002_10 == 18446744073709551615)), (by first | rfl | (simp; done) | (simp [*]; done)), H', ⟨by have := HJ10.out; have := HJ25.out; first | omega | exact Nat.le_refl _⟩, ⟨by (with_reducible repeat (first | refine blk_drewN ?_ _ | refine blk_drew ?_ | refine blk_alloc ?_ _)); refine blk_put (cs := #[.int .i64 x218000_10, .int .u64 x218001_10, .int .u64 x218002_10, .int .u64 x218003_25, .int .u64 x218004_10, .int .u64 x218005_10, .int .u64 x218006_10]) ?_ 4 _ rfl; (with_reducible repeat (first | refine blk_drewN ?_ _ | refine blk_drew ?_ | refine blk_alloc ?_ _)); exact BK217.out⟩, ⟨by (with_reducible repeat (first | refine blk_drewN ?_ _ | refine blk_drew ?_ | refine blk_alloc ?_ _)); refine blk_far ?_ NB218_217.out _; (with_reducible repeat (first | refine blk_drewN ?_ _ | refine blk_drew ?_ | refine blk_alloc ?_ _)); exact BK218.out⟩, ⟨by repeat (first | (with_reducible first | exact HB.out | apply below_alloc | apply pw_below_drewN | apply below_drew1 | refine below_set ?_ GE217.out | refine below_set ?_ GE218.out) | exact HB.out)⟩⟩
              case rest =>
                clear HC33
                try clear c1
                try clear c2
                try clear p2
                try clear c3
                try clear c4
                try clear c5
                try clear c5b0
                try clear c5b1
                try clear c8
                try clear c11
                try clear c14
                try clear c16
                try clear c16b0
                try clear c18
                try clear c22
                try clear c22b0
                try clear c22b1
                try clear c23
                try clear c27
                try clear c29
                try clear c29b0
                try clear c30
                try clear c34
                try clear c36
                try clear c36b0
                try clear c37
                try clear c39
                try clear c39b0
                try clear c39b1
                try clear c40
                try clear c42
                try clear hcz10_0
                try clear hcz10_1
                try clear hcz10_2
                try clear hcz10_3
                try clear hcz10_4
                try clear hcz10_5
                try clear hcz10_6
                try clear hcz15_0
                try clear hcz15_1
                try clear hcz15_2
                try clear hcz15_3
                try clear hcz15_4
                try clear hcz15_5
                try clear hcz15_6
                try clear hcz19_0
                try clear hcz19_1
                try clear hcz19_2
                try clear hcz19_3
                try clear hcz19_4
                try clear hcz19_5
                try clear hcz19_6
                try clear hcz21_0
                try clear hcz21_1
                try clear hcz21_2
                try clear hcz21_3
                try clear hcz21_4
                try clear hcz21_5
                try clear hcz21_6
                try clear hcz24_0
                try clear hcz24_1
                try clear hcz24_2
                try clear hcz24_3
                try clear hcz24_4
                try clear hcz24_5
                try clear hcz24_6
                try clear hcz25_0
                try clear hcz25_1
                try clear hcz25_2
                try clear hcz25_3
                try clear hcz25_4
                try clear hcz25_5
                try clear hcz25_6
                try clear hcz28_0
                try clear hcz28_1
                try clear hcz28_2
                try clear hcz28_3
                try clear hcz28_4
                try clear hcz28_5
                try clear hcz28_6
                try clear hcz31_0
                try clear hcz31_1
                try clear hcz31_2
                try clear hcz31_3
                try clear hcz31_4
                try clear hcz31_5
                try clear hcz31_6
                try clear hcz35_0
                try clear hcz35_1
                try clear hcz35_2
                try clear hcz35_3
                try clear hcz35_4
                try clear hcz35_5
                try clear hcz35_6
                try clear hcz38_0
                try clear hcz38_1
                try clear hcz38_2
                try clear hcz38_3
                try clear hcz38_4
                try clear hcz38_5
                try clear hcz38_6
                try clear hcz41_0
                try clear hcz41_1
                try clear hcz41_2
                try clear hcz41_3
                try clear hcz41_4
                try clear hcz41_5
                try clear hcz41_6
                try clear hcz43_0
                try clear hcz43_1
                try clear hcz43_2
                try clear hcz43_3
                try clear hcz43_4
                try clear hcz43_5
                try clear hcz43_6
                try clear hcz9_0
                try clear hcz9_1
                try clear hcz9_2
                try clear hcz9_3
                try clear hcz9_4
                try clear hcz9_5
                try clear hcz9_6
                try clear hfz10_0
                try clear hfz10_1
                try clear hfz10_2
                try clear hfz10_3
                try clear hfz10_4
                try clear hfz10_5
                try clear hfz10_6
                try clear hfz15_0
                try clear hfz15_1
                try clear hfz15_2
                try clear hfz15_3
                try clear hfz15_4
                try clear hfz15_5
                try clear hfz15_6
                try clear hfz19_0
                try clear hfz19_1
                try clear hfz19_2
                try clear hfz19_3
                try clear hfz19_4
                try clear hfz19_5
                try clear hfz19_6
                try clear hfz21_0
                try clear hfz21_1
                try clear hfz21_2
                try clear hfz21_3
                try clear hfz21_4
                try clear hfz21_5
                try clear hfz21_6
                try clear hfz24_0
                try clear hfz24_1
                try clear hfz24_2
                try clear hfz24_3
                try clear hfz24_4
                try clear hfz24_5
                try clear hfz24_6
                try clear hfz25_0
                try clear hfz25_1
                try clear hfz25_2
                try clear hfz25_3
                try clear hfz25_4
                try clear hfz25_5
                try clear hfz25_6
                try clear hfz28_0
                try clear hfz28_1
                try clear hfz28_2
                try clear hfz28_3
                try clear hfz28_4
                try clear hfz28_5
                try clear hfz28_6
                try clear hfz31_0
                try clear hfz31_1
                try clear hfz31_2
                try clear hfz31_3
                try clear hfz31_4
                try clear hfz31_5
                try clear hfz31_6
                try clear hfz35_0
                try clear hfz35_1
                try clear hfz35_2
                try clear hfz35_3
                try clear hfz35_4
                try clear hfz35_5
                try clear hfz35_6
                try clear hfz38_0
                try clear hfz38_1
                try clear hfz38_2
                try clear hfz38_3
                try clear hfz38_4
                try clear hfz38_5
                try clear hfz38_6
                try clear hfz41_0
                try clear hfz41_1
                try clear hfz41_2
                try clear hfz41_3
                try clear hfz41_4
                try clear hfz41_5
                try clear hfz41_6
                try clear hfz43_0
                try clear hfz43_1
                try clear hfz43_2
                try clear hfz43_3
                try clear hfz43_4
                try clear hfz43_5
                try clear hfz43_6
                try clear hfz9_0
                try clear hfz9_1
                try clear hfz9_2
                try clear hfz9_3
                try clear hfz9_4
                try clear hfz9_5
                try clear hfz9_6
                try clear p2
                obtain ⟨kq, x46_32, rfl, HA, HJ32, BK217, BK218, HB⟩ := hcut
                cases kq with
                | zero => exact absurd HA.out (by simp [wigwagref11_Sample.j2])
                | succ kj32 =>
                  have H := HA.out
                  clear HA
                  simp only [wigwagref11_Sample.j2] at H
                  by_cases c44 : x46_32 = true
                  · subst c44
                    have H1 : (some (x218000_10, x218001_10, x218002_10, x218003_25, t226, x218005_10, x218006_10)) = some (r1, r2, r3, r4, r5, r6, r7) := by rw [if_pos rfl] at H; exact H
                    clear H
                    have H := H1
                    clear H1
                    simp only [Option.some.injEq, Prod.mk.injEq] at H
                    obtain ⟨rfl, rfl, rfl, rfl, rfl, rfl, rfl⟩ := H
                    have hnb45 := NB217_218.out
                    have hnc45 := NB218_217.out
                    have hcz46_0 : wc.cell? ⟨gb217, 0, none⟩ = some (.int .i64 x218000_10) := (blk_cell BK217.out 0).trans rfl
                    have hcz46_1 : wc.cell? ⟨gb217, 1, none⟩ = some (.int .u64 x218001_10) := (blk_cell BK217.out 1).trans rfl
                    have hcz46_2 : wc.cell? ⟨gb217, 2, none⟩ = some (.int .u64 x218002_10) := (blk_cell BK217.out 2).trans rfl
                    have hcz46_3 : wc.cell? ⟨gb217, 3, none⟩ = some (.int .u64 x218003_25) := (blk_cell BK217.out 3).trans rfl
                    have hcz46_4 : wc.cell? ⟨gb217, 4, none⟩ = some (.int .u64 t226) := (blk_cell BK217.out 4).trans rfl
                    have hcz46_5 : wc.cell? ⟨gb217, 5, none⟩ = some (.int .u64 x218005_10) := (blk_cell BK217.out 5).trans rfl
                    have hcz46_6 : wc.cell? ⟨gb217, 6, none⟩ = some (.int .u64 x218006_10) := (blk_cell BK217.out 6).trans rfl
                    have hfz46_0 := blk_frozen BK217.out 0
                    have hfz46_1 := blk_frozen BK217.out 1
                    have hfz46_2 := blk_frozen BK217.out 2
                    have hfz46_3 := blk_frozen BK217.out 3
                    have hfz46_4 := blk_frozen BK217.out 4
                    have hfz46_5 := blk_frozen BK217.out 5
                    have hfz46_6 := blk_frozen BK217.out 6
                    have hcz47_0 : wc.cell? ⟨gb218, 0, none⟩ = some (.int .i64 0) := (blk_cell BK218.out 0).trans rfl
                    have hcz47_1 : wc.cell? ⟨gb218, 1, none⟩ = some (.int .u64 0) := (blk_cell BK218.out 1).trans rfl
                    have hcz47_2 : wc.cell? ⟨gb218, 2, none⟩ = some (.int .u64 0) := (blk_cell BK218.out 2).trans rfl
                    have hcz47_3 : wc.cell? ⟨gb218, 3, none⟩ = some (.int .u64 0) := (blk_cell BK218.out 3).trans rfl
                    have hcz47_4 : wc.cell? ⟨gb218, 4, none⟩ = some (.int .u64 0) := (blk_cell BK218.out 4).trans rfl
                    have hcz47_5 : wc.cell? ⟨gb218, 5, none⟩ = some (.int .u64 0) := (blk_cell BK218.out 5).trans rfl
                    have hcz47_6 : wc.cell? ⟨gb218, 6, none⟩ = some (.int .u64 0) := (blk_cell BK218.out 6).trans rfl
                    have hfz47_0 := blk_frozen BK218.out 0
                    have hfz47_1 := blk_frozen BK218.out 1
                    have hfz47_2 := blk_frozen BK218.out 2
                    have hfz47_3 := blk_frozen BK218.out 3
                    have hfz47_4 := blk_frozen BK218.out 4
                    have hfz47_5 := blk_frozen BK218.out 5
                    have hfz47_6 := blk_frozen BK218.out 6
                    go_wp2
                    repeat (go_quiet (fail); try go_wp2)
                    refine bodyPost_ret (results_cell_row rfl _ _ gb218 25 #[.int .i64 x218000_10, .int .u64 x218001_10, .int .u64 x218002_10, .int .u64 x218003_25, .int .u64 t226, .int .u64 x218005_10, .int .u64 x218006_10] (0, 0) _ rfl (by (with_reducible repeat (first | refine blk_drewN ?_ _ | refine blk_drew ?_ | refine blk_alloc ?_ _)); refine blk_put (cs := #[.int .i64 x218000_10, .int .u64 x218001_10, .int .u64 x218002_10, .int .u64 x218003_25, .int .u64 t226, .int .u64 x218005_10, .int .u64 0]) ?_ 6 _ rfl; (with_reducible repeat (first | refine blk_drewN ?_ _ | refine blk_drew ?_ | refine blk_alloc ?_ _)); refine blk_put (cs := #[.int .i64 x218000_10, .int .u64 x218001_10, .int .u64 x218002_10, .int .u64 x218003_25, .int .u64 t226, .int .u64 0, .int .u64 0]) ?_ 5 _ rfl; (with_reducible repeat (first | refine blk_drewN ?_ _ | refine blk_drew ?_ | refine blk_alloc ?_ _)); refine blk_put (cs := #[.int .i64 x218000_10, .int .u64 x218001_10, .int .u64 x218002_10, .int .u64 x218003_25, .int .u64 0, .int .u64 0, .int .u64 0]) ?_ 4 _ rfl; (with_reducible repeat (first | refine blk_drewN ?_ _ | refine blk_drew ?_ | refine blk_alloc ?_ _)); refine blk_put (cs := #[.int .i64 x218000_10, .int .u64 x218001_10, .int .u64 x218002_10, .int .u64 0, .int .u64 0, .int .u64 0, .int .u64 0]) ?_ 3 _ rfl; (with_reducible repeat (first | refine blk_drewN ?_ _ | refine blk_drew ?_ | refine blk_alloc ?_ _)); refine blk_put (cs := #[.int .i64 x218000_10, .int .u64 x218001_10, .int .u64 0, .int .u64 0, .int .u64 0, .int .u64 0, .int .u64 0]) ?_ 2 _ rfl; (with_reducible repeat (first | refine blk_drewN ?_ _ | refine blk_drew ?_ | refine blk_alloc ?_ _)); refine blk_put (cs := #[.int .i64 x218000_10, .int .u64 0, .int .u64 0, .int .u64 0, .int .u64 0, .int .u64 0, .int .u64 0]) ?_ 1 _ rfl; (with_reducible repeat (first | refine blk_drewN ?_ _ | refine blk_drew ?_ | refine blk_alloc ?_ _)); refine blk_put (cs := #[.int .i64 0, .int .u64 0, .int .u64 0, .int .u64 0, .int .u64 0, .int .u64 0, .int .u64 0]) ?_ 0 _ rfl; (with_reducible repeat (first | refine blk_drewN ?_ _ | refine blk_drew ?_ | refine blk_alloc ?_ _)); exact BK218.out) Try.underlying25 rfl (by kernel_rfl)) rfl ?_
                    exact ⟨by first | rfl | (simp [errW_none, errW_some] <;> rfl) | (simp [*, errW_none, errW_some] <;> rfl), by repeat (first | (with_reducible first | exact HB.out | apply below_alloc | apply pw_below_drewN | apply below_drew1 | refine below_set ?_ GE217.out | refine below_set ?_ GE218.out) | exact HB.out)⟩
                  · replace c44 := Bool.eq_false_iff.mpr c44
                    subst c44
                    have H1 : (if x218000_10 = 0 then ((wigwagref11_Limit.f x218002_10).bind fun t227 => ((wigwagref01_Add.f x218002_10 t227).bind fun t228 => (wigwagref11_Sample.j3 kj32 (decide (x218003_25 ≥ t228)) x218000_10 x218001_10 x218002_10 x218003_25 t226 x218005_10 x218006_10))) else (wigwagref11_Sample.j3 kj32 false x218000_10 x218001_10 x218002_10 x218003_25 t226 x218005_10 x218006_10)) = some (r1, r2, r3, r4, r5, r6, r7) := by rw [if_neg (show ¬ (false = true) by decide)] at H; exact H
                    clear H
                    have H := H1
                    clear H1
                    have HC48 := Aside0.mk H
                    clear H
                    go_upto_region 12 with (fail)
                    repeat (go_quiet (fail); go_upto_region 12 with (fail))
                    go_cut [61] (fun v61 wc => ∃ (kq : Nat) (x61_47 : Bool), v61 = .bool x61_47 ∧ Aside0 (wigwagref11_Sample.j3 kq x61_47 x218000_10 x218001_10 x218002_10 x218003_25 t226 x218005_10 x218006_10 = some (r1, r2, r3, r4, r5, r6, r7)) ∧ Aside0 (kq ≤ kj32) ∧ Aside0 (wc.heap[gb217]? = some (.cells #[.int .i64 x218000_10, .int .u64 x218001_10, .int .u64 x218002_10, .int .u64 x218003_25, .int .u64 t226, .int .u64 x218005_10, .int .u64 x218006_10] 25 (0, 0))) ∧ Aside0 (wc.heap[gb218]? = some (.cells #[.int .i64 0, .int .u64 0, .int .u64 0, .int .u64 0, .int .u64 0, .int .u64 0, .int .u64 0] 25 (0, 0))) ∧ Aside0 (Below w.heap.size w wc))
                    case first =>
                      have H := HC48.out
                      clear HC48
                      by_cases c49 : x218000_10 = 0
                      · rw [if_pos c49] at H
                        have c49b0 : (x218000_10 == 0) = true := beq_iff_eq.mpr c49
                        have c49b1 : (x218000_10 != 0) = false := bne_eq_false_iff_eq.mpr c49
                        clear c49
                        (first | rw [c49b0] | (simp only [i64_w, i32_w]; rw [c49b0]) | skip)
                        replace H := Option.bind_eq_some_iff.mp H
                        obtain ⟨t227, A500, H⟩ := H
                        replace H : ((wigwagref01_Add.f x218002_10 t227).bind fun t228 => (wigwagref11_Sample.j3 kj32 (decide (x218003_25 ≥ t228)) x218000_10 x218001_10 x218002_10 x218003_25 t226 x218005_10 x218006_10)) = some (r1, r2, r3, r4, r5, r6, r7) := H
                        have A50 := Aside0.mk A500
                        clear A500
                        replace H := Option.bind_eq_some_iff.mp H
                        obtain ⟨t228, A510, H⟩ := H
                        replace H : (wigwagref11_Sample.j3 kj32 (decide (x218003_25 ≥ t228)) x218000_10 x218001_10 x218002_10 x218003_25 t226 x218005_10 x218006_10) = some (r1, r2, r3, r4, r5, r6, r7) := H
                        have A51 := Aside0.mk A510
                        clear A510
                        have H' := Aside0.mk H
                        clear H
                        have hnb52 := NB217_218.out
                        have hnc52 := NB218_217.out
                        have hcz53_0 : wc.cell? ⟨gb217, 0, none⟩ = some (.int .i64 x218000_10) := (blk_cell BK217.out 0).trans rfl
                        have hcz53_1 : wc.cell? ⟨gb217, 1, none⟩ = some (.int .u64 x218001_10) := (blk_cell BK217.out 1).trans rfl
                        have hcz53_2 : wc.cell? ⟨gb217, 2, none⟩ = some (.int .u64 x218002_10) := (blk_cell BK217.out 2).trans rfl
                        have hcz53_3 : wc.cell? ⟨gb217, 3, none⟩ = some (.int .u64 x218003_25) := (blk_cell BK217.out 3).trans rfl
                        have hcz53_4 : wc.cell? ⟨gb217, 4, none⟩ = some (.int .u64 t226) := (blk_cell BK217.out 4).trans rfl
                        have hcz53_5 : wc.cell? ⟨gb217, 5, none⟩ = some (.int .u64 x218005_10) := (blk_cell BK217.out 5).trans rfl
                        have hcz53_6 : wc.cell? ⟨gb217, 6, none⟩ = some (.int .u64 x218006_10) := (blk_cell BK217.out 6).trans rfl
                        have hfz53_0 := blk_frozen BK217.out 0
                        have hfz53_1 := blk_frozen BK217.out 1
                        have hfz53_2 := blk_frozen BK217.out 2
                        have hfz53_3 := blk_frozen BK217.out 3
                        have hfz53_4 := blk_frozen BK217.out 4
                        have hfz53_5 := blk_frozen BK217.out 5
                        have hfz53_6 := blk_frozen BK217.out 6
                        go_wp2_with (first | (go_at_call 22; (with_reducible refine (wigwagref11_Limit.calls x218002_10 t227 _ A50.out).mono ?_); rintro e w' ⟨rfl, ⟨nd, rfl⟩⟩; (try first | exact ⟨rfl, _, World.drewN_drewN _ _ _⟩ | exact ⟨rfl, _, Eq.trans (World.drewN_drewN _ _ _) (congrArg (World.drewN _) (Nat.add_assoc _ _ _))⟩)) | (go_at_call 21; (with_reducible refine (wigwagref01_Add.calls x218002_10 t227 t228 _ A51.out).mono ?_); rintro e w' ⟨rfl, ⟨nd, rfl⟩⟩; (try first | exact ⟨rfl, _, World.drewN_drewN _ _ _⟩ | exact ⟨rfl, _, Eq.trans (World.drewN_drewN _ _ _) (congrArg (World.drewN _) (Nat.add_assoc _ _ _))⟩)))
                        repeat (go_quiet (first | (go_at_call 22; (with_reducible refine (wigwagref11_Limit.calls x218002_10 t227 _ A50.out).mono ?_); rintro e w' ⟨rfl, ⟨nd, rfl⟩⟩; (try first | exact ⟨rfl, _, World.drewN_drewN _ _ _⟩ | exact ⟨rfl, _, Eq.trans (World.drewN_drewN _ _ _) (congrArg (World.drewN _) (Nat.add_assoc _ _ _))⟩)) | (go_at_call 21; (with_reducible refine (wigwagref01_Add.calls x218002_10 t227 t228 _ A51.out).mono ?_); rintro e w' ⟨rfl, ⟨nd, rfl⟩⟩; (try first | exact ⟨rfl, _, World.drewN_drewN _ _ _⟩ | exact ⟨rfl, _, Eq.trans (World.drewN_drewN _ _ _) (congrArg (World.drewN _) (Nat.add_assoc _ _ _))⟩))); try go_wp2_with (first | (go_at_call 22; (with_reducible refine (wigwagref11_Limit.calls x218002_10 t227 _ A50.out).mono ?_); rintro e w' ⟨rfl, ⟨nd, rfl⟩⟩; (try first | exact ⟨rfl, _, World.drewN_drewN _ _ _⟩ | exact ⟨rfl, _, Eq.trans (World.drewN_drewN _ _ _) (congrArg (World.drewN _) (Nat.add_assoc _ _ _))⟩)) | (go_at_call 21; (with_reducible refine (wigwagref01_Add.calls x218002_10 t227 t228 _ A51.out).mono ?_); rintro e w' ⟨rfl, ⟨nd, rfl⟩⟩; (try first | exact ⟨rfl, _, World.drewN_drewN _ _ _⟩ | exact ⟨rfl, _, Eq.trans (World.drewN_drewN _ _ _) (congrArg (World.drewN _) (Nat.add_assoc _ _ _))⟩))))
                        go_meet
                        case rel => exact ⟨_, (decide (x218003_25 ≥ t228)), (by first | rfl | (simp; done) | (simp [*]; done)), H', ⟨by have := HJ10.out; have := HJ25.out; have := HJ32.out; first | omega | exact Nat.le_refl _⟩, ⟨by (with_reducible repeat (first | refine blk_drewN ?_ _ | refine blk_drew ?_ | refine blk_alloc ?_ _)); exact BK217.out⟩, ⟨by (with_reducible repeat (first | refine blk_drewN ?_ _ | refine blk_drew ?_ | refine blk_alloc ?_ _)); exact BK218.out⟩, ⟨by repeat (first | (with_reducible first | exact HB.out | apply below_alloc | apply pw_below_drewN | apply below_drew1 | refine below_set ?_ GE217.out | refine below_set ?_ GE218.out) | exact HB.out)⟩⟩
                      · rw [if_neg c49] at H
                        have c49b0 : (x218000_10 == 0) = false := beq_eq_false_iff_ne.mpr c49
                        have c49b1 : (x218000_10 != 0) = true := bne_iff_ne.mpr c49
                        (first | rw [c49b0] | (simp only [i64_w, i32_w]; rw [c49b0]) | skip)
                        have H' := Aside0.mk H
                        clear H
                        have hnb54 := NB217_218.out
                        have hnc54 := NB218_217.out
                        have hcz55_0 : wc.cell? ⟨gb217, 0, none⟩ = some (.int .i64 x218000_10) := (blk_cell BK217.out 0).trans rfl
                        have hcz55_1 : wc.cell? ⟨gb217, 1, none⟩ = some (.int .u64 x218001_10) := (blk_cell BK217.out 1).trans rfl
                        have hcz55_2 : wc.cell? ⟨gb217, 2, none⟩ = some (.int .u64 x218002_10) := (blk_cell BK217.out 2).trans rfl
                        have hcz55_3 : wc.cell? ⟨gb217, 3, none⟩ = some (.int .u64 x218003_25) := (blk_cell BK217.out 3).trans rfl
                        have hcz55_4 : wc.cell? ⟨gb217, 4, none⟩ = some (.int .u64 t226) := (blk_cell BK217.out 4).trans rfl
                        have hcz55_5 : wc.cell? ⟨gb217, 5, none⟩ = some (.int .u64 x218005_10) := (blk_cell BK217.out 5).trans rfl
                        have hcz55_6 : wc.cell? ⟨gb217, 6, none⟩ = some (.int .u64 x218006_10) := (blk_cell BK217.out 6).trans rfl
                        have hfz55_0 := blk_frozen BK217.out 0
                        have hfz55_1 := blk_frozen BK217.out 1
                        have hfz55_2 := blk_frozen BK217.out 2
                        have hfz55_3 := blk_frozen BK217.out 3
                        have hfz55_4 := blk_frozen BK217.out 4
                        have hfz55_5 := blk_frozen BK217.out 5
                        have hfz55_6 := blk_frozen BK217.out 6
                        go_wp2
                        repeat (go_quiet (fail); try go_wp2)
                        go_meet
                        case rel => exact ⟨_, (false), (by first | rfl | (simp; done) | (simp [*]; done)), H', ⟨by have := HJ10.out; have := HJ25.out; have := HJ32.out; first | omega | exact Nat.le_refl _⟩, ⟨by (with_reducible repeat (first | refine blk_drewN ?_ _ | refine blk_drew ?_ | refine blk_alloc ?_ _)); exact BK217.out⟩, ⟨by (with_reducible repeat (first | refine blk_drewN ?_ _ | refine blk_drew ?_ | refine blk_alloc ?_ _)); exact BK218.out⟩, ⟨by repeat (first | (with_reducible first | exact HB.out | apply below_alloc | apply pw_below_drewN | apply below_drew1 | refine below_set ?_ GE217.out | refine below_set ?_ GE218.out) | exact HB.out)⟩⟩
                    case rest =>
                      clear HC48
                      try clear c1
                      try clear c2
                      try clear p2
                      try clear c3
                      try clear c4
                      try clear c5
                      try clear c5b0
                      try clear c5b1
                      try clear c8
                      try clear c11
                      try clear c14
                      try clear c16
                      try clear c16b0
                      try clear c18
                      try clear c22
                      try clear c22b0
                      try clear c22b1
                      try clear c23
                      try clear c27
                      try clear c29
                      try clear c29b0
                      try clear c30
                      try clear c34
                      try clear c36
                      try clear c36b0
                      try clear c37
                      try clear c39
                      try clear c39b0
                      try clear c39b1
                      try clear c40
                      try clear c42
                      try clear c44
                      try clear c45
                      try clear c49
                      try clear c49b0
                      try clear c49b1
                      try clear c52
                      try clear c54
                      try clear hcz10_0
                      try clear hcz10_1
                      try clear hcz10_2
                      try clear hcz10_3
                      try clear hcz10_4
                      try clear hcz10_5
                      try clear hcz10_6
                      try clear hcz15_0
                      try clear hcz15_1
                      try clear hcz15_2
                      try clear hcz15_3
                      try clear hcz15_4
                      try clear hcz15_5
                      try clear hcz15_6
                      try clear hcz19_0
                      try clear hcz19_1
                      try clear hcz19_2
                      try clear hcz19_3
                      try clear hcz19_4
                      try clear hcz19_5
                      try clear hcz19_6
                      try clear hcz21_0
                      try clear hcz21_1
                      try clear hcz21_2
                      try clear hcz21_3
                      try clear hcz21_4
                      try clear hcz21_5
                      try clear hcz21_6
                      try clear hcz24_0
                      try clear hcz24_1
                      try clear hcz24_2
                      try clear hcz24_3
                      try clear hcz24_4
                      try clear hcz24_5
                      try clear hcz24_6
                      try clear hcz25_0
                      try clear hcz25_1
                      try clear hcz25_2
                      try clear hcz25_3
                      try clear hcz25_4
                      try clear hcz25_5
                      try clear hcz25_6
                      try clear hcz28_0
                      try clear hcz28_1
                      try clear hcz28_2
                      try clear hcz28_3
                      try clear hcz28_4
                      try clear hcz28_5
                      try clear hcz28_6
                      try clear hcz31_0
                      try clear hcz31_1
                      try clear hcz31_2
                      try clear hcz31_3
                      try clear hcz31_4
                      try clear hcz31_5
                      try clear hcz31_6
                      try clear hcz35_0
                      try clear hcz35_1
                      try clear hcz35_2
                      try clear hcz35_3
                      try clear hcz35_4
                      try clear hcz35_5
                      try clear hcz35_6
                      try clear hcz38_0
                      try clear hcz38_1
                      try clear hcz38_2
                      try clear hcz38_3
                      try clear hcz38_4
                      try clear hcz38_5
                      try clear hcz38_6
                      try clear hcz41_0
                      try clear hcz41_1
                      try clear hcz41_2
                      try clear hcz41_3
                      try clear hcz41_4
                      try clear hcz41_5
                      try clear hcz41_6
                      try clear hcz43_0
                      try clear hcz43_1
                      try clear hcz43_2
                      try clear hcz43_3
                      try clear hcz43_4
                      try clear hcz43_5
                      try clear hcz43_6
                      try clear hcz46_0
                      try clear hcz46_1
                      try clear hcz46_2
                      try clear hcz46_3
                      try clear hcz46_4
                      try clear hcz46_5
                      try clear hcz46_6
                      try clear hcz47_0
                      try clear hcz47_1
                      try clear hcz47_2
                      try clear hcz47_3
                      try clear hcz47_4
                      try clear hcz47_5
                      try clear hcz47_6
                      try clear hcz53_0
                      try clear hcz53_1
                      try clear hcz53_2
                      try clear hcz53_3
                      try clear hcz53_4
                      try clear hcz53_5
                      try clear hcz53_6
                      try clear hcz55_0
                      try clear hcz55_1
                      try clear hcz55_2
                      try clear hcz55_3
                      try clear hcz55_4
                      try clear hcz55_5
                      try clear hcz55_6
                      try clear hcz9_0
                      try clear hcz9_1
                      try clear hcz9_2
                      try clear hcz9_3
                      try clear hcz9_4
                      try clear hcz9_5
                      try clear hcz9_6
                      try clear hfz10_0
                      try clear hfz10_1
                      try clear hfz10_2
                      try clear hfz10_3
                      try clear hfz10_4
                      try clear hfz10_5
                      try clear hfz10_6
                      try clear hfz15_0
                      try clear hfz15_1
                      try clear hfz15_2
                      try clear hfz15_3
                      try clear hfz15_4
                      try clear hfz15_5
                      try clear hfz15_6
                      try clear hfz19_0
                      try clear hfz19_1
                      try clear hfz19_2
                      try clear hfz19_3
                      try clear hfz19_4
                      try clear hfz19_5
                      try clear hfz19_6
                      try clear hfz21_0
                      try clear hfz21_1
                      try clear hfz21_2
                      try clear hfz21_3
                      try clear hfz21_4
                      try clear hfz21_5
                      try clear hfz21_6
                      try clear hfz24_0
                      try clear hfz24_1
                      try clear hfz24_2
                      try clear hfz24_3
                      try clear hfz24_4
                      try clear hfz24_5
                      try clear hfz24_6
                      try clear hfz25_0
                      try clear hfz25_1
                      try clear hfz25_2
                      try clear hfz25_3
                      try clear hfz25_4
                      try clear hfz25_5
                      try clear hfz25_6
                      try clear hfz28_0
                      try clear hfz28_1
                      try clear hfz28_2
                      try clear hfz28_3
                      try clear hfz28_4
                      try clear hfz28_5
                      try clear hfz28_6
                      try clear hfz31_0
                      try clear hfz31_1
                      try clear hfz31_2
                      try clear hfz31_3
                      try clear hfz31_4
                      try clear hfz31_5
                      try clear hfz31_6
                      try clear hfz35_0
                      try clear hfz35_1
                      try clear hfz35_2
                      try clear hfz35_3
                      try clear hfz35_4
                      try clear hfz35_5
                      try clear hfz35_6
                      try clear hfz38_0
                      try clear hfz38_1
                      try clear hfz38_2
                      try clear hfz38_3
                      try clear hfz38_4
                      try clear hfz38_5
                      try clear hfz38_6
                      try clear hfz41_0
                      try clear hfz41_1
                      try clear hfz41_2
                      try clear hfz41_3
                      try clear hfz41_4
                      try clear hfz41_5
                      try clear hfz41_6
                      try clear hfz43_0
                      try clear hfz43_1
                      try clear hfz43_2
                      try clear hfz43_3
                      try clear hfz43_4
                      try clear hfz43_5
                      try clear hfz43_6
                      try clear hfz46_0
                      try clear hfz46_1
                      try clear hfz46_2
                      try clear hfz46_3
                      try clear hfz46_4
                      try clear hfz46_5
                      try clear hfz46_6
                      try clear hfz47_0
                      try clear hfz47_1
                      try clear hfz47_2
                      try clear hfz47_3
                      try clear hfz47_4
                      try clear hfz47_5
                      try clear hfz47_6
                      try clear hfz53_0
                      try clear hfz53_1
                      try clear hfz53_2
                      try clear hfz53_3
                      try clear hfz53_4
                      try clear hfz53_5
                      try clear hfz53_6
                      try clear hfz55_0
                      try clear hfz55_1
                      try clear hfz55_2
                      try clear hfz55_3
                      try clear hfz55_4
                      try clear hfz55_5
                      try clear hfz55_6
                      try clear hfz9_0
                      try clear hfz9_1
                      try clear hfz9_2
                      try clear hfz9_3
                      try clear hfz9_4
                      try clear hfz9_5
                      try clear hfz9_6
                      try clear p2
                      obtain ⟨kq, x61_47, rfl, HA, HJ47, BK217, BK218, HB⟩ := hcut
                      cases kq with
                      | zero => exact absurd HA.out (by simp [wigwagref11_Sample.j3])
                      | succ kj47 =>
                        have H := HA.out
                        clear HA
                        simp only [wigwagref11_Sample.j3] at H
                        by_cases c56 : x61_47 = true
                        · subst c56
                          have H1 : (some (1, x218001_10, x218002_10, x218003_25, t226, x218003_25, 0)) = some (r1, r2, r3, r4, r5, r6, r7) := by rw [if_pos rfl] at H; exact H
                          clear H
                          have H := H1
                          clear H1
                          simp only [Option.some.injEq, Prod.mk.injEq] at H
                          obtain ⟨rfl, rfl, rfl, rfl, rfl, rfl, rfl⟩ := H
                          have hnb57 := NB217_218.out
                          have hnc57 := NB218_217.out
                          have hcz58_0 : wc.cell? ⟨gb217, 0, none⟩ = some (.int .i64 x218000_10) := (blk_cell BK217.out 0).trans rfl
                          have hcz58_1 : wc.cell? ⟨gb217, 1, none⟩ = some (.int .u64 x218001_10) := (blk_cell BK217.out 1).trans rfl
                          have hcz58_2 : wc.cell? ⟨gb217, 2, none⟩ = some (.int .u64 x218002_10) := (blk_cell BK217.out 2).trans rfl
                          have hcz58_3 : wc.cell? ⟨gb217, 3, none⟩ = some (.int .u64 x218003_25) := (blk_cell BK217.out 3).trans rfl
                          have hcz58_4 : wc.cell? ⟨gb217, 4, none⟩ = some (.int .u64 t226) := (blk_cell BK217.out 4).trans rfl
                          have hcz58_5 : wc.cell? ⟨gb217, 5, none⟩ = some (.int .u64 x218005_10) := (blk_cell BK217.out 5).trans rfl
                          have hcz58_6 : wc.cell? ⟨gb217, 6, none⟩ = some (.int .u64 x218006_10) := (blk_cell BK217.out 6).trans rfl
                          have hfz58_0 := blk_frozen BK217.out 0
                          have hfz58_1 := blk_frozen BK217.out 1
                          have hfz58_2 := blk_frozen BK217.out 2
                          have hfz58_3 := blk_frozen BK217.out 3
                          have hfz58_4 := blk_frozen BK217.out 4
                          have hfz58_5 := blk_frozen BK217.out 5
                          have hfz58_6 := blk_frozen BK217.out 6
                          have hcz59_0 : wc.cell? ⟨gb218, 0, none⟩ = some (.int .i64 0) := (blk_cell BK218.out 0).trans rfl
                          have hcz59_1 : wc.cell? ⟨gb218, 1, none⟩ = some (.int .u64 0) := (blk_cell BK218.out 1).trans rfl
                          have hcz59_2 : wc.cell? ⟨gb218, 2, none⟩ = some (.int .u64 0) := (blk_cell BK218.out 2).trans rfl
                          have hcz59_3 : wc.cell? ⟨gb218, 3, none⟩ = some (.int .u64 0) := (blk_cell BK218.out 3).trans rfl
                          have hcz59_4 : wc.cell? ⟨gb218, 4, none⟩ = some (.int .u64 0) := (blk_cell BK218.out 4).trans rfl
                          have hcz59_5 : wc.cell? ⟨gb218, 5, none⟩ = some (.int .u64 0) := (blk_cell BK218.out 5).trans rfl
                          have hcz59_6 : wc.cell? ⟨gb218, 6, none⟩ = some (.int .u64 0) := (blk_cell BK218.out 6).trans rfl
                          have hfz59_0 := blk_frozen BK218.out 0
                          have hfz59_1 := blk_frozen BK218.out 1
                          have hfz59_2 := blk_frozen BK218.out 2
                          have hfz59_3 := blk_frozen BK218.out 3
                          have hfz59_4 := blk_frozen BK218.out 4
                          have hfz59_5 := blk_frozen BK218.out 5
                          have hfz59_6 := blk_frozen BK218.out 6
                          go_wp2
                          repeat (go_quiet (fail); try go_wp2)
                          refine bodyPost_ret (results_cell_row rfl _ _ gb218 25 #[.int .i64 1, .int .u64 x218001_10, .int .u64 x218002_10, .int .u64 x218003_25, .int .u64 t226, .int .u64 x218003_25, .int .u64 0] (0, 0) _ rfl (by (with_reducible repeat (first | refine blk_drewN ?_ _ | refine blk_drew ?_ | refine blk_alloc ?_ _)); refine blk_put (cs := #[.int .i64 1, .int .u64 x218001_10, .int .u64 x218002_10, .int .u64 x218003_25, .int .u64 t226, .int .u64 x218003_25, .int .u64 0]) ?_ 6 _ rfl; (with_reducible repeat (first | refine blk_drewN ?_ _ | refine blk_drew ?_ | refine blk_alloc ?_ _)); refine blk_put (cs := #[.int .i64 1, .int .u64 x218001_10, .int .u64 x218002_10, .int .u64 x218003_25, .int .u64 t226, .int .u64 0, .int .u64 0]) ?_ 5 _ rfl; (with_reducible repeat (first | refine blk_drewN ?_ _ | refine blk_drew ?_ | refine blk_alloc ?_ _)); refine blk_put (cs := #[.int .i64 1, .int .u64 x218001_10, .int .u64 x218002_10, .int .u64 x218003_25, .int .u64 0, .int .u64 0, .int .u64 0]) ?_ 4 _ rfl; (with_reducible repeat (first | refine blk_drewN ?_ _ | refine blk_drew ?_ | refine blk_alloc ?_ _)); refine blk_put (cs := #[.int .i64 1, .int .u64 x218001_10, .int .u64 x218002_10, .int .u64 0, .int .u64 0, .int .u64 0, .int .u64 0]) ?_ 3 _ rfl; (with_reducible repeat (first | refine blk_drewN ?_ _ | refine blk_drew ?_ | refine blk_alloc ?_ _)); refine blk_put (cs := #[.int .i64 1, .int .u64 x218001_10, .int .u64 0, .int .u64 0, .int .u64 0, .int .u64 0, .int .u64 0]) ?_ 2 _ rfl; (with_reducible repeat (first | refine blk_drewN ?_ _ | refine blk_drew ?_ | refine blk_alloc ?_ _)); refine blk_put (cs := #[.int .i64 1, .int .u64 0, .int .u64 0, .int .u64 0, .int .u64 0, .int .u64 0, .int .u64 0]) ?_ 1 _ rfl; (with_reducible repeat (first | refine blk_drewN ?_ _ | refine blk_drew ?_ | refine blk_alloc ?_ _)); refine blk_put (cs := #[.int .i64 0, .int .u64 0, .int .u64 0, .int .u64 0, .int .u64 0, .int .u64 0, .int .u64 0]) ?_ 0 _ rfl; (with_reducible repeat (first | refine blk_drewN ?_ _ | refine blk_drew ?_ | refine blk_alloc ?_ _)); refine blk_far ?_ NB218_217.out _; (with_reducible repeat (first | refine blk_drewN ?_ _ | refine blk_drew ?_ | refine blk_alloc ?_ _)); refine blk_far ?_ NB218_217.out _; (with_reducible repeat (first | refine blk_drewN ?_ _ | refine blk_drew ?_ | refine blk_alloc ?_ _)); refine blk_far ?_ NB218_217.out _; (with_reducible repeat (first | refine blk_drewN ?_ _ | refine blk_drew ?_ | refine blk_alloc ?_ _)); exact BK218.out) Try.underlying25 rfl (by kernel_rfl)) rfl ?_
                          exact ⟨by first | rfl | (simp [errW_none, errW_some] <;> rfl) | (simp [*, errW_none, errW_some] <;> rfl), by repeat (first | (with_reducible first | exact HB.out | apply below_alloc | apply pw_below_drewN | apply below_drew1 | refine below_set ?_ GE217.out | refine below_set ?_ GE218.out) | exact HB.out)⟩
                        · replace c56 := Bool.eq_false_iff.mpr c56
                          subst c56
                          have H1 : (if x218000_10 = 1 then (if x218003_25 < x218005_10 then (some (0, x218001_10, x218002_10, x218003_25, t226, 18446744073709551615, x218006_10)) else (some (x218000_10, x218001_10, x218002_10, x218003_25, t226, x218005_10, x218006_10))) else (some (x218000_10, x218001_10, x218002_10, x218003_25, t226, x218005_10, x218006_10))) = some (r1, r2, r3, r4, r5, r6, r7) := by rw [if_neg (show ¬ (false = true) by decide)] at H; exact H
                          clear H
                          have H := H1
                          clear H1
                          by_cases c60 : x218000_10 = 1
                          · rw [if_pos c60] at H
                            have c60b0 : (x218000_10 == 1) = true := beq_iff_eq.mpr c60
                            have c60b1 : (x218000_10 != 1) = false := bne_eq_false_iff_eq.mpr c60
                            clear c60
                            by_cases c61 : x218003_25 < x218005_10
                            · rw [if_pos c61] at H
                              have c61b0 : decide (x218003_25 < x218005_10) = true := decide_eq_true c61
                              clear c61
                              simp only [Option.some.injEq, Prod.mk.injEq] at H
                              obtain ⟨rfl, rfl, rfl, rfl, rfl, rfl, rfl⟩ := H
                              have hnb62 := NB217_218.out
                              have hnc62 := NB218_217.out
                              have hcz63_0 : wc.cell? ⟨gb217, 0, none⟩ = some (.int .i64 x218000_10) := (blk_cell BK217.out 0).trans rfl
                              have hcz63_1 : wc.cell? ⟨gb217, 1, none⟩ = some (.int .u64 x218001_10) := (blk_cell BK217.out 1).trans rfl
                              have hcz63_2 : wc.cell? ⟨gb217, 2, none⟩ = some (.int .u64 x218002_10) := (blk_cell BK217.out 2).trans rfl
                              have hcz63_3 : wc.cell? ⟨gb217, 3, none⟩ = some (.int .u64 x218003_25) := (blk_cell BK217.out 3).trans rfl
                              have hcz63_4 : wc.cell? ⟨gb217, 4, none⟩ = some (.int .u64 t226) := (blk_cell BK217.out 4).trans rfl
                              have hcz63_5 : wc.cell? ⟨gb217, 5, none⟩ = some (.int .u64 x218005_10) := (blk_cell BK217.out 5).trans rfl
                              have hcz63_6 : wc.cell? ⟨gb217, 6, none⟩ = some (.int .u64 x218006_10) := (blk_cell BK217.out 6).trans rfl
                              have hfz63_0 := blk_frozen BK217.out 0
                              have hfz63_1 := blk_frozen BK217.out 1
                              have hfz63_2 := blk_frozen BK217.out 2
                              have hfz63_3 := blk_frozen BK217.out 3
                              have hfz63_4 := blk_frozen BK217.out 4
                              have hfz63_5 := blk_frozen BK217.out 5
                              have hfz63_6 := blk_frozen BK217.out 6
                              have hcz64_0 : wc.cell? ⟨gb218, 0, none⟩ = some (.int .i64 0) := (blk_cell BK218.out 0).trans rfl
                              have hcz64_1 : wc.cell? ⟨gb218, 1, none⟩ = some (.int .u64 0) := (blk_cell BK218.out 1).trans rfl
                              have hcz64_2 : wc.cell? ⟨gb218, 2, none⟩ = some (.int .u64 0) := (blk_cell BK218.out 2).trans rfl
                              have hcz64_3 : wc.cell? ⟨gb218, 3, none⟩ = some (.int .u64 0) := (blk_cell BK218.out 3).trans rfl
                              have hcz64_4 : wc.cell? ⟨gb218, 4, none⟩ = some (.int .u64 0) := (blk_cell BK218.out 4).trans rfl
                              have hcz64_5 : wc.cell? ⟨gb218, 5, none⟩ = some (.int .u64 0) := (blk_cell BK218.out 5).trans rfl
                              have hcz64_6 : wc.cell? ⟨gb218, 6, none⟩ = some (.int .u64 0) := (blk_cell BK218.out 6).trans rfl
                              have hfz64_0 := blk_frozen BK218.out 0
                              have hfz64_1 := blk_frozen BK218.out 1
                              have hfz64_2 := blk_frozen BK218.out 2
                              have hfz64_3 := blk_frozen BK218.out 3
                              have hfz64_4 := blk_frozen BK218.out 4
                              have hfz64_5 := blk_frozen BK218.out 5
                              have hfz64_6 := blk_frozen BK218.out 6
                              go_wp2
                              repeat (go_quiet (fail); try go_wp2)
                              refine bodyPost_ret (results_cell_row rfl _ _ gb218 25 #[.int .i64 0, .int .u64 x218001_10, .int .u64 x218002_10, .int .u64 x218003_25, .int .u64 t226, .int .u64 18446744073709551615, .int .u64 x218006_10] (0, 0) _ rfl (by (with_reducible repeat (first | refine blk_drewN ?_ _ | refine blk_drew ?_ | refine blk_alloc ?_ _)); refine blk_put (cs := #[.int .i64 0, .int .u64 x218001_10, .int .u64 x218002_10, .int .u64 x218003_25, .int .u64 t226, .int .u64 18446744073709551615, .int .u64 0]) ?_ 6 _ rfl; (with_reducible repeat (first | refine blk_drewN ?_ _ | refine blk_drew ?_ | refine blk_alloc ?_ _)); refine blk_put (cs := #[.int .i64 0, .int .u64 x218001_10, .int .u64 x218002_10, .int .u64 x218003_25, .int .u64 t226, .int .u64 0, .int .u64 0]) ?_ 5 _ rfl; (with_reducible repeat (first | refine blk_drewN ?_ _ | refine blk_drew ?_ | refine blk_alloc ?_ _)); refine blk_put (cs := #[.int .i64 0, .int .u64 x218001_10, .int .u64 x218002_10, .int .u64 x218003_25, .int .u64 0, .int .u64 0, .int .u64 0]) ?_ 4 _ rfl; (with_reducible repeat (first | refine blk_drewN ?_ _ | refine blk_drew ?_ | refine blk_alloc ?_ _)); refine blk_put (cs := #[.int .i64 0, .int .u64 x218001_10, .int .u64 x218002_10, .int .u64 0, .int .u64 0, .int .u64 0, .int .u64 0]) ?_ 3 _ rfl; (with_reducible repeat (first | refine blk_drewN ?_ _ | refine blk_drew ?_ | refine blk_alloc ?_ _)); refine blk_put (cs := #[.int .i64 0, .int .u64 x218001_10, .int .u64 0, .int .u64 0, .int .u64 0, .int .u64 0, .int .u64 0]) ?_ 2 _ rfl; (with_reducible repeat (first | refine blk_drewN ?_ _ | refine blk_drew ?_ | refine blk_alloc ?_ _)); refine blk_put (cs := #[.int .i64 0, .int .u64 0, .int .u64 0, .int .u64 0, .int .u64 0, .int .u64 0, .int .u64 0]) ?_ 1 _ rfl; (with_reducible repeat (first | refine blk_drewN ?_ _ | refine blk_drew ?_ | refine blk_alloc ?_ _)); refine blk_put (cs := #[.int .i64 0, .int .u64 0, .int .u64 0, .int .u64 0, .int .u64 0, .int .u64 0, .int .u64 0]) ?_ 0 _ rfl; (with_reducible repeat (first | refine blk_drewN ?_ _ | refine blk_drew ?_ | refine blk_alloc ?_ _)); refine blk_far ?_ NB218_217.out _; (with_reducible repeat (first | refine blk_drewN ?_ _ | refine blk_drew ?_ | refine blk_alloc ?_ _)); refine blk_far ?_ NB218_217.out _; (with_reducible repeat (first | refine blk_drewN ?_ _ | refine blk_drew ?_ | refine blk_alloc ?_ _)); exact BK218.out) Try.underlying25 rfl (by kernel_rfl)) rfl ?_
                              exact ⟨by first | rfl | (simp [errW_none, errW_some] <;> rfl) | (simp [*, errW_none, errW_some] <;> rfl), by repeat (first | (with_reducible first | exact HB.out | apply below_alloc | apply pw_below_drewN | apply below_drew1 | refine below_set ?_ GE217.out | refine below_set ?_ GE218.out) | exact HB.out)⟩
                            · rw [if_neg c61] at H
                              have c61b0 : decide (x218003_25 < x218005_10) = false := decide_eq_false c61
                              clear c61
                              simp only [Option.some.injEq, Prod.mk.injEq] at H
                              obtain ⟨rfl, rfl, rfl, rfl, rfl, rfl, rfl⟩ := H
                              have hnb65 := NB217_218.out
                              have hnc65 := NB218_217.out
                              have hcz66_0 : wc.cell? ⟨gb217, 0, none⟩ = some (.int .i64 x218000_10) := (blk_cell BK217.out 0).trans rfl
                              have hcz66_1 : wc.cell? ⟨gb217, 1, none⟩ = some (.int .u64 x218001_10) := (blk_cell BK217.out 1).trans rfl
                              have hcz66_2 : wc.cell? ⟨gb217, 2, none⟩ = some (.int .u64 x218002_10) := (blk_cell BK217.out 2).trans rfl
                              have hcz66_3 : wc.cell? ⟨gb217, 3, none⟩ = some (.int .u64 x218003_25) := (blk_cell BK217.out 3).trans rfl
                              have hcz66_4 : wc.cell? ⟨gb217, 4, none⟩ = some (.int .u64 t226) := (blk_cell BK217.out 4).trans rfl
                              have hcz66_5 : wc.cell? ⟨gb217, 5, none⟩ = some (.int .u64 x218005_10) := (blk_cell BK217.out 5).trans rfl
                              have hcz66_6 : wc.cell? ⟨gb217, 6, none⟩ = some (.int .u64 x218006_10) := (blk_cell BK217.out 6).trans rfl
                              have hfz66_0 := blk_frozen BK217.out 0
                              have hfz66_1 := blk_frozen BK217.out 1
                              have hfz66_2 := blk_frozen BK217.out 2
                              have hfz66_3 := blk_frozen BK217.out 3
                              have hfz66_4 := blk_frozen BK217.out 4
                              have hfz66_5 := blk_frozen BK217.out 5
                              have hfz66_6 := blk_frozen BK217.out 6
                              have hcz67_0 : wc.cell? ⟨gb218, 0, none⟩ = some (.int .i64 0) := (blk_cell BK218.out 0).trans rfl
                              have hcz67_1 : wc.cell? ⟨gb218, 1, none⟩ = some (.int .u64 0) := (blk_cell BK218.out 1).trans rfl
                              have hcz67_2 : wc.cell? ⟨gb218, 2, none⟩ = some (.int .u64 0) := (blk_cell BK218.out 2).trans rfl
                              have hcz67_3 : wc.cell? ⟨gb218, 3, none⟩ = some (.int .u64 0) := (blk_cell BK218.out 3).trans rfl
                              have hcz67_4 : wc.cell? ⟨gb218, 4, none⟩ = some (.int .u64 0) := (blk_cell BK218.out 4).trans rfl
                              have hcz67_5 : wc.cell? ⟨gb218, 5, none⟩ = some (.int .u64 0) := (blk_cell BK218.out 5).trans rfl
                              have hcz67_6 : wc.cell? ⟨gb218, 6, none⟩ = some (.int .u64 0) := (blk_cell BK218.out 6).trans rfl
                              have hfz67_0 := blk_frozen BK218.out 0
                              have hfz67_1 := blk_frozen BK218.out 1
                              have hfz67_2 := blk_frozen BK218.out 2
                              have hfz67_3 := blk_frozen BK218.out 3
                              have hfz67_4 := blk_frozen BK218.out 4
                              have hfz67_5 := blk_frozen BK218.out 5
                              have hfz67_6 := blk_frozen BK218.out 6
                              go_wp2
                              repeat (go_quiet (fail); try go_wp2)
                              refine bodyPost_ret (results_cell_row rfl _ _ gb218 25 #[.int .i64 x218000_10, .int .u64 x218001_10, .int .u64 x218002_10, .int .u64 x218003_25, .int .u64 t226, .int .u64 x218005_10, .int .u64 x218006_10] (0, 0) _ rfl (by (with_reducible repeat (first | refine blk_drewN ?_ _ | refine blk_drew ?_ | refine blk_alloc ?_ _)); refine blk_put (cs := #[.int .i64 x218000_10, .int .u64 x218001_10, .int .u64 x218002_10, .int .u64 x218003_25, .int .u64 t226, .int .u64 x218005_10, .int .u64 0]) ?_ 6 _ rfl; (with_reducible repeat (first | refine blk_drewN ?_ _ | refine blk_drew ?_ | refine blk_alloc ?_ _)); refine blk_put (cs := #[.int .i64 x218000_10, .int .u64 x218001_10, .int .u64 x218002_10, .int .u64 x218003_25, .int .u64 t226, .int .u64 0, .int .u64 0]) ?_ 5 _ rfl; (with_reducible repeat (first | refine blk_drewN ?_ _ | refine blk_drew ?_ | refine blk_alloc ?_ _)); refine blk_put (cs := #[.int .i64 x218000_10, .int .u64 x218001_10, .int .u64 x218002_10, .int .u64 x218003_25, .int .u64 0, .int .u64 0, .int .u64 0]) ?_ 4 _ rfl; (with_reducible repeat (first | refine blk_drewN ?_ _ | refine blk_drew ?_ | refine blk_alloc ?_ _)); refine blk_put (cs := #[.int .i64 x218000_10, .int .u64 x218001_10, .int .u64 x218002_10, .int .u64 0, .int .u64 0, .int .u64 0, .int .u64 0]) ?_ 3 _ rfl; (with_reducible repeat (first | refine blk_drewN ?_ _ | refine blk_drew ?_ | refine blk_alloc ?_ _)); refine blk_put (cs := #[.int .i64 x218000_10, .int .u64 x218001_10, .int .u64 0, .int .u64 0, .int .u64 0, .int .u64 0, .int .u64 0]) ?_ 2 _ rfl; (with_reducible repeat (first | refine blk_drewN ?_ _ | refine blk_drew ?_ | refine blk_alloc ?_ _)); refine blk_put (cs := #[.int .i64 x218000_10, .int .u64 0, .int .u64 0, .int .u64 0, .int .u64 0, .int .u64 0, .int .u64 0]) ?_ 1 _ rfl; (with_reducible repeat (first | refine blk_drewN ?_ _ | refine blk_drew ?_ | refine blk_alloc ?_ _)); refine blk_put (cs := #[.int .i64 0, .int .u64 0, .int .u64 0, .int .u64 0, .int .u64 0, .int .u64 0, .int .u64 0]) ?_ 0 _ rfl; (with_reducible repeat (first | refine blk_drewN ?_ _ | refine blk_drew ?_ | refine blk_alloc ?_ _)); exact BK218.out) Try.underlying25 rfl (by kernel_rfl)) rfl ?_
                              exact ⟨by first | rfl | (simp [errW_none, errW_some] <;> rfl) | (simp [*, errW_none, errW_some] <;> rfl), by repeat (first | (with_reducible first | exact HB.out | apply below_alloc | apply pw_below_drewN | apply below_drew1 | refine below_set ?_ GE217.out | refine below_set ?_ GE218.out) | exact HB.out)⟩
                          · rw [if_neg c60] at H
                            have c60b0 : (x218000_10 == 1) = false := beq_eq_false_iff_ne.mpr c60
                            have c60b1 : (x218000_10 != 1) = true := bne_iff_ne.mpr c60
                            simp only [Option.some.injEq, Prod.mk.injEq] at H
                            obtain ⟨rfl, rfl, rfl, rfl, rfl, rfl, rfl⟩ := H
                            have hnb68 := NB217_218.out
                            have hnc68 := NB218_217.out
                            have hcz69_0 : wc.cell? ⟨gb217, 0, none⟩ = some (.int .i64 x218000_10) := (blk_cell BK217.out 0).trans rfl
                            have hcz69_1 : wc.cell? ⟨gb217, 1, none⟩ = some (.int .u64 x218001_10) := (blk_cell BK217.out 1).trans rfl
                            have hcz69_2 : wc.cell? ⟨gb217, 2, none⟩ = some (.int .u64 x218002_10) := (blk_cell BK217.out 2).trans rfl
                            have hcz69_3 : wc.cell? ⟨gb217, 3, none⟩ = some (.int .u64 x218003_25) := (blk_cell BK217.out 3).trans rfl
                            have hcz69_4 : wc.cell? ⟨gb217, 4, none⟩ = some (.int .u64 t226) := (blk_cell BK217.out 4).trans rfl
                            have hcz69_5 : wc.cell? ⟨gb217, 5, none⟩ = some (.int .u64 x218005_10) := (blk_cell BK217.out 5).trans rfl
                            have hcz69_6 : wc.cell? ⟨gb217, 6, none⟩ = some (.int .u64 x218006_10) := (blk_cell BK217.out 6).trans rfl
                            have hfz69_0 := blk_frozen BK217.out 0
                            have hfz69_1 := blk_frozen BK217.out 1
                            have hfz69_2 := blk_frozen BK217.out 2
                            have hfz69_3 := blk_frozen BK217.out 3
                            have hfz69_4 := blk_frozen BK217.out 4
                            have hfz69_5 := blk_frozen BK217.out 5
                            have hfz69_6 := blk_frozen BK217.out 6
                            have hcz70_0 : wc.cell? ⟨gb218, 0, none⟩ = some (.int .i64 0) := (blk_cell BK218.out 0).trans rfl
                            have hcz70_1 : wc.cell? ⟨gb218, 1, none⟩ = some (.int .u64 0) := (blk_cell BK218.out 1).trans rfl
                            have hcz70_2 : wc.cell? ⟨gb218, 2, none⟩ = some (.int .u64 0) := (blk_cell BK218.out 2).trans rfl
                            have hcz70_3 : wc.cell? ⟨gb218, 3, none⟩ = some (.int .u64 0) := (blk_cell BK218.out 3).trans rfl
                            have hcz70_4 : wc.cell? ⟨gb218, 4, none⟩ = some (.int .u64 0) := (blk_cell BK218.out 4).trans rfl
                            have hcz70_5 : wc.cell? ⟨gb218, 5, none⟩ = some (.int .u64 0) := (blk_cell BK218.out 5).trans rfl
                            have hcz70_6 : wc.cell? ⟨gb218, 6, none⟩ = some (.int .u64 0) := (blk_cell BK218.out 6).trans rfl
                            have hfz70_0 := blk_frozen BK218.out 0
                            have hfz70_1 := blk_frozen BK218.out 1
                            have hfz70_2 := blk_frozen BK218.out 2
                            have hfz70_3 := blk_frozen BK218.out 3
                            have hfz70_4 := blk_frozen BK218.out 4
                            have hfz70_5 := blk_frozen BK218.out 5
                            have hfz70_6 := blk_frozen BK218.out 6
                            go_wp2
                            repeat (go_quiet (fail); try go_wp2)
                            refine bodyPost_ret (results_cell_row rfl _ _ gb218 25 #[.int .i64 x218000_10, .int .u64 x218001_10, .int .u64 x218002_10, .int .u64 x218003_25, .int .u64 t226, .int .u64 x218005_10, .int .u64 x218006_10] (0, 0) _ rfl (by (with_reducible repeat (first | refine blk_drewN ?_ _ | refine blk_drew ?_ | refine blk_alloc ?_ _)); refine blk_put (cs := #[.int .i64 x218000_10, .int .u64 x218001_10, .int .u64 x218002_10, .int .u64 x218003_25, .int .u64 t226, .int .u64 x218005_10, .int .u64 0]) ?_ 6 _ rfl; (with_reducible repeat (first | refine blk_drewN ?_ _ | refine blk_drew ?_ | refine blk_alloc ?_ _)); refine blk_put (cs := #[.int .i64 x218000_10, .int .u64 x218001_10, .int .u64 x218002_10, .int .u64 x218003_25, .int .u64 t226, .int .u64 0, .int .u64 0]) ?_ 5 _ rfl; (with_reducible repeat (first | refine blk_drewN ?_ _ | refine blk_drew ?_ | refine blk_alloc ?_ _)); refine blk_put (cs := #[.int .i64 x218000_10, .int .u64 x218001_10, .int .u64 x218002_10, .int .u64 x218003_25, .int .u64 0, .int .u64 0, .int .u64 0]) ?_ 4 _ rfl; (with_reducible repeat (first | refine blk_drewN ?_ _ | refine blk_drew ?_ | refine blk_alloc ?_ _)); refine blk_put (cs := #[.int .i64 x218000_10, .int .u64 x218001_10, .int .u64 x218002_10, .int .u64 0, .int .u64 0, .int .u64 0, .int .u64 0]) ?_ 3 _ rfl; (with_reducible repeat (first | refine blk_drewN ?_ _ | refine blk_drew ?_ | refine blk_alloc ?_ _)); refine blk_put (cs := #[.int .i64 x218000_10, .int .u64 x218001_10, .int .u64 0, .int .u64 0, .int .u64 0, .int .u64 0, .int .u64 0]) ?_ 2 _ rfl; (with_reducible repeat (first | refine blk_drewN ?_ _ | refine blk_drew ?_ | refine blk_alloc ?_ _)); refine blk_put (cs := #[.int .i64 x218000_10, .int .u64 0, .int .u64 0, .int .u64 0, .int .u64 0, .int .u64 0, .int .u64 0]) ?_ 1 _ rfl; (with_reducible repeat (first | refine blk_drewN ?_ _ | refine blk_drew ?_ | refine blk_alloc ?_ _)); refine blk_put (cs := #[.int .i64 0, .int .u64 0, .int .u64 0, .int .u64 0, .int .u64 0, .int .u64 0, .int .u64 0]) ?_ 0 _ rfl; (with_reducible repeat (first | refine blk_drewN ?_ _ | refine blk_drew ?_ | refine blk_alloc ?_ _)); exact BK218.out) Try.underlying25 rfl (by kernel_rfl)) rfl ?_
                            exact ⟨by first | rfl | (simp [errW_none, errW_some] <;> rfl) | (simp [*, errW_none, errW_some] <;> rfl), by repeat (first | (with_reducible first | exact HB.out | apply below_alloc | apply pw_below_drewN | apply below_drew1 | refine below_set ?_ GE217.out | refine below_set ?_ GE218.out) | exact HB.out)⟩

end Go.Proofs.Ythclohjlbajclaa.P
