-- Printed for this claim by xprint.py of this session: contracts of this session's own stand in for what the print does not take
import Derived.Test.YthclohjlbajclaaPx0
import Derived.Test.YthclohjlbajclaaPx2
namespace Go.Proofs.Ythclohjlbajclaa.P
open Go.RowKit Go.Proofs.YthclohjlbajclaaW.PrintWords Go.Proofs.YthclohjlbajclaaW.PrintLast Go.Proofs.YthclohjlbajclaaW.PrintMore
attribute [local go_sem] max2_int min2_int max_two min_two max_three min_three max_four min_four   -- for this text's walks alone
set_option linter.unusedVariables false
set_option linter.unusedSimpArgs false

/-! ### hystart_Sample: function 10 -/
mutual
def hystart_Sample.j0 : Nat → Int → Int → Bool → Int → Int → Int → Int → Int → Int → Int → Option (Int × Int × Int × Int × Int × Int × Int)
  | 0, _, _, _, _, _, _, _, _, _, _ => none
  | k + 1, x2, x3, x20, x103000, x103001, x103002, x103003, x103004, x103005, x103006 => if x20 = true then (if x103000 = 1 then ((fix_Add.f x103006 1).bind fun t105 => (if t105 = 5 then (hystart_Sample.j1 k x3 2 x2 x103003 18446744073709551615 0 x103005 t105) else (hystart_Sample.j1 k x3 x103000 x2 x103003 18446744073709551615 0 x103005 t105))) else (hystart_Sample.j1 k x3 x103000 x2 x103003 18446744073709551615 0 x103005 x103006)) else (hystart_Sample.j1 k x3 x103000 x103001 x103002 x103003 x103004 x103005 x103006)
def hystart_Sample.j1 : Nat → Int → Int → Int → Int → Int → Int → Int → Int → Option (Int × Int × Int × Int × Int × Int × Int)
  | 0, _, _, _, _, _, _, _, _ => none
  | k + 1, x3, x103000, x103001, x103002, x103003, x103004, x103005, x103006 => (hystart_Sample_1.f x103000 x103001 x103002 x103003 x103004 x103005 x103006).bind fun t106 => (if t106 = true then (some (x103000, x103001, x103002, x103003, x103004, x103005, x103006)) else ((fix_Add.f x103004 1).bind fun t107 => (if t107 < 8 then (hystart_Sample.j2 k true x103000 x103001 x103002 (mn x103003 x3) t107 x103005 x103006) else (if (mn x103003 x3) = 18446744073709551615 then (hystart_Sample.j2 k true x103000 x103001 x103002 (mn x103003 x3) t107 x103005 x103006) else (hystart_Sample.j2 k (x103002 == 18446744073709551615) x103000 x103001 x103002 (mn x103003 x3) t107 x103005 x103006)))))
def hystart_Sample.j2 : Nat → Bool → Int → Int → Int → Int → Int → Int → Int → Option (Int × Int × Int × Int × Int × Int × Int)
  | 0, _, _, _, _, _, _, _, _ => none
  | k + 1, x63, x103000, x103001, x103002, x103003, x103004, x103005, x103006 => if x63 = true then (some (x103000, x103001, x103002, x103003, x103004, x103005, x103006)) else (if x103000 = 0 then ((fix_Add.f x103002 (mn (mx (IntKind.u64.wrap (Int.tdiv x103002 8)) 4) 16)).bind fun t108 => (hystart_Sample.j3 k (decide (x103003 ≥ t108)) x103000 x103001 x103002 x103003 x103004 x103005 x103006)) else (hystart_Sample.j3 k false x103000 x103001 x103002 x103003 x103004 x103005 x103006))
def hystart_Sample.j3 : Nat → Bool → Int → Int → Int → Int → Int → Int → Int → Option (Int × Int × Int × Int × Int × Int × Int)
  | 0, _, _, _, _, _, _, _, _ => none
  | k + 1, x70, x103000, x103001, x103002, x103003, x103004, x103005, x103006 => if x70 = true then (some (1, x103001, x103002, x103003, x103004, x103003, 0)) else (if x103000 = 1 then (if x103003 < x103005 then (some (0, x103001, x103002, x103003, x103004, 18446744073709551615, x103006)) else (some (x103000, x103001, x103002, x103003, x103004, x103005, x103006))) else (some (x103000, x103001, x103002, x103003, x103004, x103005, x103006)))
end
def hystart_Sample.f (k : Nat) (a0_0 : Int) (a0_1 : Int) (a0_2 : Int) (a0_3 : Int) (a0_4 : Int) (a0_5 : Int) (a0_6 : Int) (a1 : Int) (a2 : Int) (a3 : Int) : Option (Int × Int × Int × Int × Int × Int × Int) := (hystart_Sample_1.f a0_0 a0_1 a0_2 a0_3 a0_4 a0_5 a0_6).bind fun t104 => (if t104 = true then (hystart_Sample.j0 k a2 a3 false a0_0 a0_1 a0_2 a0_3 a0_4 a0_5 a0_6) else (hystart_Sample.j0 k a2 a3 (decide (a1 ≥ a0_1)) a0_0 a0_1 a0_2 a0_3 a0_4 a0_5 a0_6))
theorem hystart_Sample.mono_l : ∀ k, (∀ y0 y1 y2 y3 y4 y5 y6 y7 y8 y9, LeO (hystart_Sample.j0 k y0 y1 y2 y3 y4 y5 y6 y7 y8 y9) (hystart_Sample.j0 (k + 1) y0 y1 y2 y3 y4 y5 y6 y7 y8 y9)) ∧ (∀ y0 y1 y2 y3 y4 y5 y6 y7, LeO (hystart_Sample.j1 k y0 y1 y2 y3 y4 y5 y6 y7) (hystart_Sample.j1 (k + 1) y0 y1 y2 y3 y4 y5 y6 y7)) ∧ (∀ y0 y1 y2 y3 y4 y5 y6 y7, LeO (hystart_Sample.j2 k y0 y1 y2 y3 y4 y5 y6 y7) (hystart_Sample.j2 (k + 1) y0 y1 y2 y3 y4 y5 y6 y7)) ∧ (∀ y0 y1 y2 y3 y4 y5 y6 y7, LeO (hystart_Sample.j3 k y0 y1 y2 y3 y4 y5 y6 y7) (hystart_Sample.j3 (k + 1) y0 y1 y2 y3 y4 y5 y6 y7))
  | 0 => ⟨fun _ _ _ _ _ _ _ _ _ _ r h => by simp [hystart_Sample.j0] at h, fun _ _ _ _ _ _ _ _ r h => by simp [hystart_Sample.j1] at h, fun _ _ _ _ _ _ _ _ r h => by simp [hystart_Sample.j2] at h, fun _ _ _ _ _ _ _ _ r h => by simp [hystart_Sample.j3] at h⟩
  | k + 1 => by
    obtain ⟨ih0, ih1, ih2, ih3⟩ := hystart_Sample.mono_l k
    refine ⟨?_, ?_, ?_, ?_⟩
    · intro y0 y1 y2 y3 y4 y5 y6 y7 y8 y9
      unfold hystart_Sample.j0
      repeat' first
      | (with_reducible exact ih0 _ _ _ _ _ _ _ _ _ _)
      | (with_reducible exact ih1 _ _ _ _ _ _ _ _)
      | (with_reducible exact ih2 _ _ _ _ _ _ _ _)
      | (with_reducible exact ih3 _ _ _ _ _ _ _ _)
      | (with_reducible exact LeO.refl _)
      | (with_reducible exact LeO.none _)
      | (with_reducible refine LeO.ite ?_ ?_)
      | (with_reducible refine LeO.bind ?_ (fun _ => ?_))
      | exact ih0 _ _ _ _ _ _ _ _ _ _
      | exact ih1 _ _ _ _ _ _ _ _
      | exact ih2 _ _ _ _ _ _ _ _
      | exact ih3 _ _ _ _ _ _ _ _
      | exact LeO.none _
      | refine LeO.ite ?_ ?_
      | refine LeO.bind ?_ (fun _ => ?_)
    · intro y0 y1 y2 y3 y4 y5 y6 y7
      unfold hystart_Sample.j1
      repeat' first
      | (with_reducible exact ih0 _ _ _ _ _ _ _ _ _ _)
      | (with_reducible exact ih1 _ _ _ _ _ _ _ _)
      | (with_reducible exact ih2 _ _ _ _ _ _ _ _)
      | (with_reducible exact ih3 _ _ _ _ _ _ _ _)
      | (with_reducible exact LeO.refl _)
      | (with_reducible exact LeO.none _)
      | (with_reducible refine LeO.ite ?_ ?_)
      | (with_reducible refine LeO.bind ?_ (fun _ => ?_))
      | exact ih0 _ _ _ _ _ _ _ _ _ _
      | exact ih1 _ _ _ _ _ _ _ _
      | exact ih2 _ _ _ _ _ _ _ _
      | exact ih3 _ _ _ _ _ _ _ _
      | exact LeO.none _
      | refine LeO.ite ?_ ?_
      | refine LeO.bind ?_ (fun _ => ?_)
    · intro y0 y1 y2 y3 y4 y5 y6 y7
      unfold hystart_Sample.j2
      repeat' first
      | (with_reducible exact ih0 _ _ _ _ _ _ _ _ _ _)
      | (with_reducible exact ih1 _ _ _ _ _ _ _ _)
      | (with_reducible exact ih2 _ _ _ _ _ _ _ _)
      | (with_reducible exact ih3 _ _ _ _ _ _ _ _)
      | (with_reducible exact LeO.refl _)
      | (with_reducible exact LeO.none _)
      | (with_reducible refine LeO.ite ?_ ?_)
      | (with_reducible refine LeO.bind ?_ (fun _ => ?_))
      | exact ih0 _ _ _ _ _ _ _ _ _ _
      | exact ih1 _ _ _ _ _ _ _ _
      | exact ih2 _ _ _ _ _ _ _ _
      | exact ih3 _ _ _ _ _ _ _ _
      | exact LeO.none _
      | refine LeO.ite ?_ ?_
      | refine LeO.bind ?_ (fun _ => ?_)
    · intro y0 y1 y2 y3 y4 y5 y6 y7
      unfold hystart_Sample.j3
      repeat' first
      | (with_reducible exact ih0 _ _ _ _ _ _ _ _ _ _)
      | (with_reducible exact ih1 _ _ _ _ _ _ _ _)
      | (with_reducible exact ih2 _ _ _ _ _ _ _ _)
      | (with_reducible exact ih3 _ _ _ _ _ _ _ _)
      | (with_reducible exact LeO.refl _)
      | (with_reducible exact LeO.none _)
      | (with_reducible refine LeO.ite ?_ ?_)
      | (with_reducible refine LeO.bind ?_ (fun _ => ?_))
      | exact ih0 _ _ _ _ _ _ _ _ _ _
      | exact ih1 _ _ _ _ _ _ _ _
      | exact ih2 _ _ _ _ _ _ _ _
      | exact ih3 _ _ _ _ _ _ _ _
      | exact LeO.none _
      | refine LeO.ite ?_ ?_
      | refine LeO.bind ?_ (fun _ => ?_)
theorem hystart_Sample.mono : ∀ a0 a1 a2 a3 a4 a5 a6 a7 a8 a9 k, LeO (hystart_Sample.f k a0 a1 a2 a3 a4 a5 a6 a7 a8 a9) (hystart_Sample.f (k + 1) a0 a1 a2 a3 a4 a5 a6 a7 a8 a9) := by
  intro a0 a1 a2 a3 a4 a5 a6 a7 a8 a9 k
  obtain ⟨ih0, ih1, ih2, ih3⟩ := hystart_Sample.mono_l k
  unfold hystart_Sample.f
  repeat' first
      | (with_reducible exact ih0 _ _ _ _ _ _ _ _ _ _)
      | (with_reducible exact ih1 _ _ _ _ _ _ _ _)
      | (with_reducible exact ih2 _ _ _ _ _ _ _ _)
      | (with_reducible exact ih3 _ _ _ _ _ _ _ _)
      | (with_reducible exact LeO.refl _)
      | (with_reducible exact LeO.none _)
      | (with_reducible refine LeO.ite ?_ ?_)
      | (with_reducible refine LeO.bind ?_ (fun _ => ?_))
      | exact ih0 _ _ _ _ _ _ _ _ _ _
      | exact ih1 _ _ _ _ _ _ _ _
      | exact ih2 _ _ _ _ _ _ _ _
      | exact ih3 _ _ _ _ _ _ _ _
      | exact LeO.none _
      | refine LeO.ite ?_ ?_
      | refine LeO.bind ?_ (fun _ => ?_)
def hystart_Sample.T10 : Bool × List (List Nat × List Nat) := (true, [([], []), ([0], [0]), ([], []), ([1, 2], [1, 2]), ([], []), ([4], [4]), ([5], [5]), ([0, 1, 2, 3, 4, 5], []), ([7, 3, 6, 0, 1, 2, 3, 4, 5], [3, 7]), ([0, 1, 2, 3, 4, 5, 6, 7, 8], []), ([9, 6, 8, 0, 1, 2, 3, 4, 5, 6, 7, 8], [6, 9])])
def hystart_Sample.B10 : List Nat := [0, 1, 0, 7, 0, 16, 48, 63, 255, 511, 1023]
theorem hystart_Sample.tab10 : rtab .any (opsOf Try.f10 10) = hystart_Sample.T10 := by kernel_rfl
theorem hystart_Sample.bits10 : waitsOk hystart_Sample.T10.2 hystart_Sample.B10 = true := by kernel_rfl
def hystart_Sample.T14 : Bool × List (List Nat × List Nat) := (true, [([], []), ([0], [0]), ([1], [1]), ([2], [2]), ([3], [3]), ([4, 3], [3, 4]), ([3], [3]), ([6, 3], [3, 6]), ([3], [3]), ([7, 8, 3, 3], [3, 7, 8]), ([5, 9, 3], [3, 5, 9]), ([3, 10], [3, 10]), ([11, 9], [11])])
def hystart_Sample.B14 : List Nat := [0, 1, 3, 7, 15, 31, 15, 79, 15, 463, 1023, 2047, 4095]
theorem hystart_Sample.tab14 : rtab .any (opsOf Try.f10 14) = hystart_Sample.T14 := by kernel_rfl
theorem hystart_Sample.bits14 : waitsOk hystart_Sample.T14.2 hystart_Sample.B14 = true := by kernel_rfl
set_option maxHeartbeats 8000000 in
set_option maxRecDepth 100000 in
theorem hystart_Sample.calls (k : Nat) (a0_0 : Int) (a0_1 : Int) (a0_2 : Int) (a0_3 : Int) (a0_4 : Int) (a0_5 : Int) (a0_6 : Int) (a1 : Int) (a2 : Int) (a3 : Int) (r1 : Int) (r2 : Int) (r3 : Int) (r4 : Int) (r5 : Int) (r6 : Int) (r7 : Int) (w : World) (h : hystart_Sample.f k a0_0 a0_1 a0_2 a0_3 a0_4 a0_5 a0_6 a1 a2 a3 = some (r1, r2, r3, r4, r5, r6, r7)) :
    Calls Try.prog 10 #[.agg #[.int .i64 a0_0, .int .u64 a0_1, .int .u64 a0_2, .int .u64 a0_3, .int .u64 a0_4, .int .u64 a0_5, .int .u64 a0_6], .int .u64 a1, .int .u64 a2, .int .u64 a3] w fun e w' => e = .returned (.agg #[.int .i64 r1, .int .u64 r2, .int .u64 r3, .int .u64 r4, .int .u64 r5, .int .u64 r6, .int .u64 r7]) ∧ Below w.heap.size w w' := by
  have hu25 := Try.underlying25
  have HB := Aside0.mk (Below.refl w.heap.size w)
  have H : ((hystart_Sample_1.f a0_0 a0_1 a0_2 a0_3 a0_4 a0_5 a0_6).bind fun t104 => (if t104 = true then (hystart_Sample.j0 k a2 a3 false a0_0 a0_1 a0_2 a0_3 a0_4 a0_5 a0_6) else (hystart_Sample.j0 k a2 a3 (decide (a1 ≥ a0_1)) a0_0 a0_1 a0_2 a0_3 a0_4 a0_5 a0_6))) = some (r1, r2, r3, r4, r5, r6, r7) := h
  clear h
  have HC5 := Aside0.mk H
  clear H
  go_enter Try.func10, Try.ntmps10
  go_upto_region 2 with (first | ((with_reducible refine gate_dst (N := 4) rfl ?_); refine box_event ?hg (N := 4) ?hd (cs := #[.int .i64 a0_0, .int .u64 a0_1, .int .u64 a0_2, .int .u64 a0_3, .int .u64 a0_4, .int .u64 a0_5, .int .u64 a0_6]) (t := 25) ?hr ?_; (case hd => rfl); (case hg => rfl); (case hr => first | (go_simp; done) | (go_simp; rfl)); intro gb102 hg w6 hbox hb; have n0_ := Aside0.mk (below_step (by repeat (first | (with_reducible first | exact HB.out | apply below_alloc | apply pw_below_drewN | apply below_drew1) | exact HB.out)) hb); have n1_ := Aside0.mk (hbox); have n2_ := Aside0.mk ((by rw [hg]; exact (below_size (by repeat (first | (with_reducible first | exact HB.out | apply below_alloc | apply pw_below_drewN | apply below_drew1) | exact HB.out))) : w.heap.size ≤ gb102)); have n3_ := Aside0.mk ((by rw [hg]; exact (below_size (by repeat (first | (with_reducible first | exact HB.out | apply below_alloc | apply pw_below_drewN | apply below_drew1) | exact HB.out))) : w.heap.size ≤ gb102)); clear HB; have HB := n0_; have BK102 := n1_; have GW102 := n2_; have GE102 := n3_; clear n0_ n1_ n2_ n3_; clear hb hbox hg) | ((with_reducible refine gate_dst (N := 8) rfl ?_); refine box_event ?hg (N := 8) ?hd (cs := #[.int .i64 0, .int .u64 0, .int .u64 0, .int .u64 0, .int .u64 0, .int .u64 0, .int .u64 0]) (t := 25) ?hr ?_; (case hd => rfl); (case hg => rfl); (case hr => first | (go_simp; done) | (go_simp; rfl)); intro gb103 hg w7 hbox hb; have n0_ := Aside0.mk (blk_below (g := gb102) (o := .cells #[.int .i64 a0_0, .int .u64 a0_1, .int .u64 a0_2, .int .u64 a0_3, .int .u64 a0_4, .int .u64 a0_5, .int .u64 a0_6] 25 (0, 0)) (by (with_reducible repeat (first | refine blk_drewN ?_ _ | refine blk_drew ?_ | refine blk_alloc ?_ _)); exact BK102.out) hb); have n1_ := Aside0.mk (below_step (by repeat (first | (with_reducible first | exact HB.out | apply below_alloc | apply pw_below_drewN | apply below_drew1 | refine below_set ?_ GE102.out) | exact HB.out)) hb); have n2_ := Aside0.mk (hbox); have n3_ := Aside0.mk ((by rw [hg]; exact (below_size (by repeat (first | (with_reducible first | exact HB.out | apply below_alloc | apply pw_below_drewN | apply below_drew1 | refine below_set ?_ GE102.out) | exact HB.out))) : w.heap.size ≤ gb103)); have n4_ := Aside0.mk ((by rw [hg]; exact (below_size (by repeat (first | (with_reducible first | exact HB.out | apply below_alloc | apply pw_below_drewN | apply below_drew1 | refine below_set ?_ GE102.out) | exact HB.out))) : w.heap.size ≤ gb103)); have n5_ := Aside0.mk ((by rw [hg]; exact Nat.ne_of_lt (blk_lt (g := gb102) (o := .cells #[.int .i64 a0_0, .int .u64 a0_1, .int .u64 a0_2, .int .u64 a0_3, .int .u64 a0_4, .int .u64 a0_5, .int .u64 a0_6] 25 (0, 0)) (by (with_reducible repeat (first | refine blk_drewN ?_ _ | refine blk_drew ?_ | refine blk_alloc ?_ _)); exact BK102.out)) : gb102 ≠ gb103)); have n6_ := Aside0.mk ((by rw [hg]; exact Nat.ne_of_gt (blk_lt (g := gb102) (o := .cells #[.int .i64 a0_0, .int .u64 a0_1, .int .u64 a0_2, .int .u64 a0_3, .int .u64 a0_4, .int .u64 a0_5, .int .u64 a0_6] 25 (0, 0)) (by (with_reducible repeat (first | refine blk_drewN ?_ _ | refine blk_drew ?_ | refine blk_alloc ?_ _)); exact BK102.out)) : gb103 ≠ gb102)); clear BK102; clear HB; have BK102 := n0_; have HB := n1_; have BK103 := n2_; have GW103 := n3_; have GE103 := n4_; have NB102_103 := n5_; have NB103_102 := n6_; clear n0_ n1_ n2_ n3_ n4_ n5_ n6_; clear hb hbox hg))
  (try simp only [Act.put, List.setIfInBounds_toArray, List.set_cons_zero, List.set_cons_succ])
  go_cut [20] (fun v20 wc => ∃ (kq : Nat) (x20_4 : Bool), v20 = .bool x20_4 ∧ Aside0 (hystart_Sample.j0 kq a2 a3 x20_4 a0_0 a0_1 a0_2 a0_3 a0_4 a0_5 a0_6 = some (r1, r2, r3, r4, r5, r6, r7)) ∧ Aside0 (kq ≤ k) ∧ Aside0 (wc.heap[gb102]? = some (.cells #[.int .i64 a0_0, .int .u64 a0_1, .int .u64 a0_2, .int .u64 a0_3, .int .u64 a0_4, .int .u64 a0_5, .int .u64 a0_6] 25 (0, 0))) ∧ Aside0 (wc.heap[gb103]? = some (.cells #[.int .i64 0, .int .u64 0, .int .u64 0, .int .u64 0, .int .u64 0, .int .u64 0, .int .u64 0] 25 (0, 0))) ∧ Aside0 (Below w.heap.size w wc))
  case first =>
    have H := HC5.out
    clear HC5
    replace H := Option.bind_eq_some_iff.mp H
    obtain ⟨t104, A80, H⟩ := H
    replace H : (if t104 = true then (hystart_Sample.j0 k a2 a3 false a0_0 a0_1 a0_2 a0_3 a0_4 a0_5 a0_6) else (hystart_Sample.j0 k a2 a3 (decide (a1 ≥ a0_1)) a0_0 a0_1 a0_2 a0_3 a0_4 a0_5 a0_6)) = some (r1, r2, r3, r4, r5, r6, r7) := H
    have A8 := Aside0.mk A80
    clear A80
    by_cases c9 : t104 = true
    · subst c9
      have H1 : (hystart_Sample.j0 k a2 a3 false a0_0 a0_1 a0_2 a0_3 a0_4 a0_5 a0_6) = some (r1, r2, r3, r4, r5, r6, r7) := by rw [if_pos rfl] at H; exact H
      clear H
      have H := H1
      clear H1
      have H' := Aside0.mk H
      clear H
      go_wp2_with (first | ((refine gate_closure (f := 18) rfl rfl ?_); refine goesC_ (some 13) rfl rfl Try.func18 (by kernel_rfl) rfl #[.pointer (some ⟨gb102, 0, none⟩)] rfl rfl (by (try simp only [List.map_toArray, List.map_cons, List.map_nil]); first | done | rfl | (simp only [List.length_drop, List.length_take]; rfl)) ?_; (with_reducible refine (hystart_Sample_1.calls a0_0 a0_1 a0_2 a0_3 a0_4 a0_5 a0_6 true _ ?side1 A8.out).mono ?_); (case side1 => exact (by (with_reducible repeat (first | refine blk_drewN ?_ _ | refine blk_drew ?_ | refine blk_alloc ?_ _)); exact BK102.out)); rintro e w10 ⟨rfl, hb⟩; refine ⟨_, rfl, ?_⟩; have n0_ := Aside0.mk (blk_below (g := gb102) (o := .cells #[.int .i64 a0_0, .int .u64 a0_1, .int .u64 a0_2, .int .u64 a0_3, .int .u64 a0_4, .int .u64 a0_5, .int .u64 a0_6] 25 (0, 0)) (by (with_reducible repeat (first | refine blk_drewN ?_ _ | refine blk_drew ?_ | refine blk_alloc ?_ _)); exact BK102.out) hb); have n1_ := Aside0.mk (blk_below (g := gb103) (o := .cells #[.int .i64 0, .int .u64 0, .int .u64 0, .int .u64 0, .int .u64 0, .int .u64 0, .int .u64 0] 25 (0, 0)) (by (with_reducible repeat (first | refine blk_drewN ?_ _ | refine blk_drew ?_ | refine blk_alloc ?_ _)); exact BK103.out) hb); have n2_ := Aside0.mk (below_step (by repeat (first | (with_reducible first | exact HB.out | apply below_alloc | apply pw_below_drewN | apply below_drew1 | refine below_set ?_ GE102.out | refine below_set ?_ GE103.out) | exact HB.out)) hb); clear BK102; clear BK103; clear HB; have BK102 := n0_; have BK103 := n1_; have HB := n2_; clear n0_ n1_ n2_; (try clear hb); (try clear hb2); (try clear hk); (try clear hi)))
      go_meet
      case rel => exact ⟨_, (false), (by first | rfl | (simp; done) | (simp [*]; done)), H', ⟨by first | omega | exact Nat.le_refl _⟩, ⟨by (with_reducible repeat (first | refine blk_drewN ?_ _ | refine blk_drew ?_ | refine blk_alloc ?_ _)); exact BK102.out⟩, ⟨by (with_reducible repeat (first | refine blk_drewN ?_ _ | refine blk_drew ?_ | refine blk_alloc ?_ _)); exact BK103.out⟩, ⟨by repeat (first | (with_reducible first | exact HB.out | apply below_alloc | apply pw_below_drewN | apply below_drew1 | refine below_set ?_ GE102.out | refine below_set ?_ GE103.out) | exact HB.out)⟩⟩
    · replace c9 := Bool.eq_false_iff.mpr c9
      subst c9
      have H1 : (hystart_Sample.j0 k a2 a3 (decide (a1 ≥ a0_1)) a0_0 a0_1 a0_2 a0_3 a0_4 a0_5 a0_6) = some (r1, r2, r3, r4, r5, r6, r7) := by rw [if_neg (show ¬ (false = true) by decide)] at H; exact H
      clear H
      have H := H1
      clear H1
      have H' := Aside0.mk H
      clear H
      go_wp2_with (first | ((refine gate_closure (f := 18) rfl rfl ?_); refine goesC_ (some 13) rfl rfl Try.func18 (by kernel_rfl) rfl #[.pointer (some ⟨gb102, 0, none⟩)] rfl rfl (by (try simp only [List.map_toArray, List.map_cons, List.map_nil]); first | done | rfl | (simp only [List.length_drop, List.length_take]; rfl)) ?_; (with_reducible refine (hystart_Sample_1.calls a0_0 a0_1 a0_2 a0_3 a0_4 a0_5 a0_6 false _ ?side1 A8.out).mono ?_); (case side1 => exact (by (with_reducible repeat (first | refine blk_drewN ?_ _ | refine blk_drew ?_ | refine blk_alloc ?_ _)); exact BK102.out)); rintro e w11 ⟨rfl, hb⟩; refine ⟨_, rfl, ?_⟩; have n0_ := Aside0.mk (blk_below (g := gb102) (o := .cells #[.int .i64 a0_0, .int .u64 a0_1, .int .u64 a0_2, .int .u64 a0_3, .int .u64 a0_4, .int .u64 a0_5, .int .u64 a0_6] 25 (0, 0)) (by (with_reducible repeat (first | refine blk_drewN ?_ _ | refine blk_drew ?_ | refine blk_alloc ?_ _)); exact BK102.out) hb); have n1_ := Aside0.mk (blk_below (g := gb103) (o := .cells #[.int .i64 0, .int .u64 0, .int .u64 0, .int .u64 0, .int .u64 0, .int .u64 0, .int .u64 0] 25 (0, 0)) (by (with_reducible repeat (first | refine blk_drewN ?_ _ | refine blk_drew ?_ | refine blk_alloc ?_ _)); exact BK103.out) hb); have n2_ := Aside0.mk (below_step (by repeat (first | (with_reducible first | exact HB.out | apply below_alloc | apply pw_below_drewN | apply below_drew1 | refine below_set ?_ GE102.out | refine below_set ?_ GE103.out) | exact HB.out)) hb); clear BK102; clear BK103; clear HB; have BK102 := n0_; have BK103 := n1_; have HB := n2_; clear n0_ n1_ n2_; (try clear hb); (try clear hb2); (try clear hk); (try clear hi); have hnb12 := NB102_103.out; have hnc12 := NB103_102.out; have hcz13_0 : w11.cell? ⟨gb102, 0, none⟩ = some (.int .i64 a0_0) := (blk_cell BK102.out 0).trans rfl; have hcz13_1 : w11.cell? ⟨gb102, 1, none⟩ = some (.int .u64 a0_1) := (blk_cell BK102.out 1).trans rfl; have hcz13_2 : w11.cell? ⟨gb102, 2, none⟩ = some (.int .u64 a0_2) := (blk_cell BK102.out 2).trans rfl; have hcz13_3 : w11.cell? ⟨gb102, 3, none⟩ = some (.int .u64 a0_3) := (blk_cell BK102.out 3).trans rfl; have hcz13_4 : w11.cell? ⟨gb102, 4, none⟩ = some (.int .u64 a0_4) := (blk_cell BK102.out 4).trans rfl; have hcz13_5 : w11.cell? ⟨gb102, 5, none⟩ = some (.int .u64 a0_5) := (blk_cell BK102.out 5).trans rfl; have hcz13_6 : w11.cell? ⟨gb102, 6, none⟩ = some (.int .u64 a0_6) := (blk_cell BK102.out 6).trans rfl; have hfz13_0 := blk_frozen BK102.out 0; have hfz13_1 := blk_frozen BK102.out 1; have hfz13_2 := blk_frozen BK102.out 2; have hfz13_3 := blk_frozen BK102.out 3; have hfz13_4 := blk_frozen BK102.out 4; have hfz13_5 := blk_frozen BK102.out 5; have hfz13_6 := blk_frozen BK102.out 6))
      go_meet
      case rel => exact ⟨_, (decide (a1 ≥ a0_1)), (by first | rfl | (simp; done) | (simp [*]; done)), H', ⟨by first | omega | exact Nat.le_refl _⟩, ⟨by (with_reducible repeat (first | refine blk_drewN ?_ _ | refine blk_drew ?_ | refine blk_alloc ?_ _)); exact BK102.out⟩, ⟨by (with_reducible repeat (first | refine blk_drewN ?_ _ | refine blk_drew ?_ | refine blk_alloc ?_ _)); exact BK103.out⟩, ⟨by repeat (first | (with_reducible first | exact HB.out | apply below_alloc | apply pw_below_drewN | apply below_drew1 | refine below_set ?_ GE102.out | refine below_set ?_ GE103.out) | exact HB.out)⟩⟩
  case rest =>
    clear HC5
    try clear c1
    try clear p2
    try clear c9
    try clear c10
    try clear c12
    try clear hcz13_0
    try clear hcz13_1
    try clear hcz13_2
    try clear hcz13_3
    try clear hcz13_4
    try clear hcz13_5
    try clear hcz13_6
    try clear hfz13_0
    try clear hfz13_1
    try clear hfz13_2
    try clear hfz13_3
    try clear hfz13_4
    try clear hfz13_5
    try clear hfz13_6
    obtain ⟨kq, x20_4, rfl, HA, HJ4, BK102, BK103, HB⟩ := hcut
    cases kq with
    | zero => exact absurd HA.out (by simp [hystart_Sample.j0])
    | succ kj4 =>
      have H := HA.out
      clear HA
      simp only [hystart_Sample.j0] at H
      have HC14 := Aside0.mk H
      clear H
      go_upto_if 20 with (fail)
      go_cut [] (fun wc => ∃ (kq : Nat) (x103000_13 : Int) (x103001_13 : Int) (x103002_13 : Int) (x103003_13 : Int) (x103004_13 : Int) (x103006_13 : Int), Aside0 (hystart_Sample.j1 kq a3 x103000_13 x103001_13 x103002_13 x103003_13 x103004_13 a0_5 x103006_13 = some (r1, r2, r3, r4, r5, r6, r7)) ∧ Aside0 (kq ≤ kj4) ∧ Aside0 (wc.heap[gb102]? = some (.cells #[.int .i64 x103000_13, .int .u64 x103001_13, .int .u64 x103002_13, .int .u64 x103003_13, .int .u64 x103004_13, .int .u64 a0_5, .int .u64 x103006_13] 25 (0, 0))) ∧ Aside0 (wc.heap[gb103]? = some (.cells #[.int .i64 0, .int .u64 0, .int .u64 0, .int .u64 0, .int .u64 0, .int .u64 0, .int .u64 0] 25 (0, 0))) ∧ Aside0 (Below w.heap.size w wc))
      case first =>
        have H := HC14.out
        clear HC14
        by_cases c15 : x20_4 = true
        · subst c15
          have H1 : (if a0_0 = 1 then ((fix_Add.f a0_6 1).bind fun t105 => (if t105 = 5 then (hystart_Sample.j1 kj4 a3 2 a2 a0_3 18446744073709551615 0 a0_5 t105) else (hystart_Sample.j1 kj4 a3 a0_0 a2 a0_3 18446744073709551615 0 a0_5 t105))) else (hystart_Sample.j1 kj4 a3 a0_0 a2 a0_3 18446744073709551615 0 a0_5 a0_6)) = some (r1, r2, r3, r4, r5, r6, r7) := by rw [if_pos rfl] at H; exact H
          clear H
          have H := H1
          clear H1
          by_cases c16 : a0_0 = 1
          · rw [if_pos c16] at H
            have c16b0 : (a0_0 == 1) = true := beq_iff_eq.mpr c16
            have c16b1 : (a0_0 != 1) = false := bne_eq_false_iff_eq.mpr c16
            clear c16
            (first | rw [c16b0] | (simp only [i64_w, i32_w]; rw [c16b0]) | skip)
            replace H := Option.bind_eq_some_iff.mp H
            obtain ⟨t105, A170, H⟩ := H
            replace H : (if t105 = 5 then (hystart_Sample.j1 kj4 a3 2 a2 a0_3 18446744073709551615 0 a0_5 t105) else (hystart_Sample.j1 kj4 a3 a0_0 a2 a0_3 18446744073709551615 0 a0_5 t105)) = some (r1, r2, r3, r4, r5, r6, r7) := H
            have A17 := Aside0.mk A170
            clear A170
            by_cases c18 : t105 = 5
            · rw [if_pos c18] at H
              have c18b0 : (t105 == 5) = true := beq_iff_eq.mpr c18
              have c18b1 : (t105 != 5) = false := bne_eq_false_iff_eq.mpr c18
              clear c18
              have H' := Aside0.mk H
              clear H
              have hnb19 := NB102_103.out
              have hnc19 := NB103_102.out
              have hcz20_0 : wc.cell? ⟨gb102, 0, none⟩ = some (.int .i64 a0_0) := (blk_cell BK102.out 0).trans rfl
              have hcz20_1 : wc.cell? ⟨gb102, 1, none⟩ = some (.int .u64 a0_1) := (blk_cell BK102.out 1).trans rfl
              have hcz20_2 : wc.cell? ⟨gb102, 2, none⟩ = some (.int .u64 a0_2) := (blk_cell BK102.out 2).trans rfl
              have hcz20_3 : wc.cell? ⟨gb102, 3, none⟩ = some (.int .u64 a0_3) := (blk_cell BK102.out 3).trans rfl
              have hcz20_4 : wc.cell? ⟨gb102, 4, none⟩ = some (.int .u64 a0_4) := (blk_cell BK102.out 4).trans rfl
              have hcz20_5 : wc.cell? ⟨gb102, 5, none⟩ = some (.int .u64 a0_5) := (blk_cell BK102.out 5).trans rfl
              have hcz20_6 : wc.cell? ⟨gb102, 6, none⟩ = some (.int .u64 a0_6) := (blk_cell BK102.out 6).trans rfl
              have hfz20_0 := blk_frozen BK102.out 0
              have hfz20_1 := blk_frozen BK102.out 1
              have hfz20_2 := blk_frozen BK102.out 2
              have hfz20_3 := blk_frozen BK102.out 3
              have hfz20_4 := blk_frozen BK102.out 4
              have hfz20_5 := blk_frozen BK102.out 5
              have hfz20_6 := blk_frozen BK102.out 6
              go_wp2_with (first | ((with_reducible refine gate_callee (f := 19) rfl ?_); refine goesL_ (some 33) rfl rfl Try.func19 (by kernel_rfl) rfl #[.int .u64 a0_6, .int .u64 1] rfl (by (try simp only [List.map_toArray, List.map_cons, List.map_nil]); first | done | rfl | (simp only [List.length_drop, List.length_take]; rfl)) ?_; (with_reducible refine (fix_Add.calls a0_6 1 t105 _ A17.out).mono ?_); rintro e w' ⟨rfl, ⟨nd, rfl⟩⟩; refine ⟨_, rfl, ?_⟩))
              go_meet
              case rel => exact ⟨_, (2), (a2), (a0_3), (18446744073709551615), (0), (t105), H', ⟨by have := HJ4.out; first | omega | exact Nat.le_refl _⟩, ⟨by (with_reducible repeat (first | refine blk_drewN ?_ _ | refine blk_drew ?_ | refine blk_alloc ?_ _)); refine blk_put (cs := #[.int .i64 a0_0, .int .u64 a2, .int .u64 a0_3, .int .u64 18446744073709551615, .int .u64 0, .int .u64 a0_5, .int .u64 t105]) ?_ 0 _ rfl; (with_reducible repeat (first | refine blk_drewN ?_ _ | refine blk_drew ?_ | refine blk_alloc ?_ _)); refine blk_put (cs := #[.int .i64 a0_0, .int .u64 a2, .int .u64 a0_3, .int .u64 18446744073709551615, .int .u64 0, .int .u64 a0_5, .int .u64 a0_6]) ?_ 6 _ rfl; (with_reducible repeat (first | refine blk_drewN ?_ _ | refine blk_drew ?_ | refine blk_alloc ?_ _)); refine blk_put (cs := #[.int .i64 a0_0, .int .u64 a0_1, .int .u64 a0_3, .int .u64 18446744073709551615, .int .u64 0, .int .u64 a0_5, .int .u64 a0_6]) ?_ 1 _ rfl; (with_reducible repeat (first | refine blk_drewN ?_ _ | refine blk_drew ?_ | refine blk_alloc ?_ _)); refine blk_put (cs := #[.int .i64 a0_0, .int .u64 a0_1, .int .u64 a0_3, .int .u64 18446744073709551615, .int .u64 a0_4, .int .u64 a0_5, .int .u64 a0_6]) ?_ 4 _ rfl; (with_reducible repeat (first | refine blk_drewN ?_ _ | refine blk_drew ?_ | refine blk_alloc ?_ _)); refine blk_put (cs := #[.int .i64 a0_0, .int .u64 a0_1, .int .u64 a0_3, .int .u64 a0_3, .int .u64 a0_4, .int .u64 a0_5, .int .u64 a0_6]) ?_ 3 _ rfl; (with_reducible repeat (first | refine blk_drewN ?_ _ | refine blk_drew ?_ | refine blk_alloc ?_ _)); refine blk_put (cs := #[.int .i64 a0_0, .int .u64 a0_1, .int .u64 a0_2, .int .u64 a0_3, .int .u64 a0_4, .int .u64 a0_5, .int .u64 a0_6]) ?_ 2 _ rfl; (with_reducible repeat (first | refine blk_drewN ?_ _ | refine blk_drew ?_ | refine blk_alloc ?_ _)); exact BK102.out⟩, ⟨by (with_reducible repeat (first | refine blk_drewN ?_ _ | refine blk_drew ?_ | refine blk_alloc ?_ _)); refine blk_far ?_ NB103_102.out _; (with_reducible repeat (first | refine blk_drewN ?_ _ | refine blk_drew ?_ | refine blk_alloc ?_ _)); refine blk_far ?_ NB103_102.out _; (with_reducible repeat (first | refine blk_drewN ?_ _ | refine blk_drew ?_ | refine blk_alloc ?_ _)); refine blk_far ?_ NB103_102.out _; (with_reducible repeat (first | refine blk_drewN ?_ _ | refine blk_drew ?_ | refine blk_alloc ?_ _)); refine blk_far ?_ NB103_102.out _; (with_reducible repeat (first | refine blk_drewN ?_ _ | refine blk_drew ?_ | refine blk_alloc ?_ _)); refine blk_far ?_ NB103_102.out _; (with_reducible repeat (first | refine blk_drewN ?_ _ | refine blk_drew ?_ | refine blk_alloc ?_ _)); refine blk_far ?_ NB103_102.out _; (with_reducible repeat (first | refine blk_drewN ?_ _ | refine blk_drew ?_ | refine blk_alloc ?_ _)); exact BK103.out⟩, ⟨by repeat (first | (with_reducible first | exact HB.out | apply below_alloc | apply pw_below_drewN | apply below_drew1 | refine below_set ?_ GE102.out | refine below_set ?_ GE103.out) | exact HB.out)⟩⟩
            · rw [if_neg c18] at H
              have c18b0 : (t105 == 5) = false := beq_eq_false_iff_ne.mpr c18
              have c18b1 : (t105 != 5) = true := bne_iff_ne.mpr c18
              have H' := Aside0.mk H
              clear H
              have hnb21 := NB102_103.out
              have hnc21 := NB103_102.out
              have hcz22_0 : wc.cell? ⟨gb102, 0, none⟩ = some (.int .i64 a0_0) := (blk_cell BK102.out 0).trans rfl
              have hcz22_1 : wc.cell? ⟨gb102, 1, none⟩ = some (.int .u64 a0_1) := (blk_cell BK102.out 1).trans rfl
              have hcz22_2 : wc.cell? ⟨gb102, 2, none⟩ = some (.int .u64 a0_2) := (blk_cell BK102.out 2).trans rfl
              have hcz22_3 : wc.cell? ⟨gb102, 3, none⟩ = some (.int .u64 a0_3) := (blk_cell BK102.out 3).trans rfl
              have hcz22_4 : wc.cell? ⟨gb102, 4, none⟩ = some (.int .u64 a0_4) := (blk_cell BK102.out 4).trans rfl
              have hcz22_5 : wc.cell? ⟨gb102, 5, none⟩ = some (.int .u64 a0_5) := (blk_cell BK102.out 5).trans rfl
              have hcz22_6 : wc.cell? ⟨gb102, 6, none⟩ = some (.int .u64 a0_6) := (blk_cell BK102.out 6).trans rfl
              have hfz22_0 := blk_frozen BK102.out 0
              have hfz22_1 := blk_frozen BK102.out 1
              have hfz22_2 := blk_frozen BK102.out 2
              have hfz22_3 := blk_frozen BK102.out 3
              have hfz22_4 := blk_frozen BK102.out 4
              have hfz22_5 := blk_frozen BK102.out 5
              have hfz22_6 := blk_frozen BK102.out 6
              go_wp2_with (first | ((with_reducible refine gate_callee (f := 19) rfl ?_); refine goesL_ (some 33) rfl rfl Try.func19 (by kernel_rfl) rfl #[.int .u64 a0_6, .int .u64 1] rfl (by (try simp only [List.map_toArray, List.map_cons, List.map_nil]); first | done | rfl | (simp only [List.length_drop, List.length_take]; rfl)) ?_; (with_reducible refine (fix_Add.calls a0_6 1 t105 _ A17.out).mono ?_); rintro e w' ⟨rfl, ⟨nd, rfl⟩⟩; refine ⟨_, rfl, ?_⟩))
              go_meet
              case rel => exact ⟨_, (a0_0), (a2), (a0_3), (18446744073709551615), (0), (t105), H', ⟨by have := HJ4.out; first | omega | exact Nat.le_refl _⟩, ⟨by (with_reducible repeat (first | refine blk_drewN ?_ _ | refine blk_drew ?_ | refine blk_alloc ?_ _)); refine blk_put (cs := #[.int .i64 a0_0, .int .u64 a2, .int .u64 a0_3, .int .u64 18446744073709551615, .int .u64 0, .int .u64 a0_5, .int .u64 a0_6]) ?_ 6 _ rfl; (with_reducible repeat (first | refine blk_drewN ?_ _ | refine blk_drew ?_ | refine blk_alloc ?_ _)); refine blk_put (cs := #[.int .i64 a0_0, .int .u64 a0_1, .int .u64 a0_3, .int .u64 18446744073709551615, .int .u64 0, .int .u64 a0_5, .int .u64 a0_6]) ?_ 1 _ rfl; (with_reducible repeat (first | refine blk_drewN ?_ _ | refine blk_drew ?_ | refine blk_alloc ?_ _)); refine blk_put (cs := #[.int .i64 a0_0, .int .u64 a0_1, .int .u64 a0_3, .int .u64 18446744073709551615, .int .u64 a0_4, .int .u64 a0_5, .int .u64 a0_6]) ?_ 4 _ rfl; (with_reducible repeat (first | refine blk_drewN ?_ _ | refine blk_drew ?_ | refine blk_alloc ?_ _)); refine blk_put (cs := #[.int .i64 a0_0, .int .u64 a0_1, .int .u64 a0_3, .int .u64 a0_3, .int .u64 a0_4, .int .u64 a0_5, .int .u64 a0_6]) ?_ 3 _ rfl; (with_reducible repeat (first | refine blk_drewN ?_ _ | refine blk_drew ?_ | refine blk_alloc ?_ _)); refine blk_put (cs := #[.int .i64 a0_0, .int .u64 a0_1, .int .u64 a0_2, .int .u64 a0_3, .int .u64 a0_4, .int .u64 a0_5, .int .u64 a0_6]) ?_ 2 _ rfl; (with_reducible repeat (first | refine blk_drewN ?_ _ | refine blk_drew ?_ | refine blk_alloc ?_ _)); exact BK102.out⟩, ⟨by (with_reducible repeat (first | refine blk_drewN ?_ _ | refine blk_drew ?_ | refine blk_alloc ?_ _)); refine blk_far ?_ NB103_102.out _; (with_reducible repeat (first | refine blk_drewN ?_ _ | refine blk_drew ?_ | refine blk_alloc ?_ _)); refine blk_far ?_ NB103_102.out _; (with_reducible repeat (first | refine blk_drewN ?_ _ | refine blk_drew ?_ | refine blk_alloc ?_ _)); refine blk_far ?_ NB103_102.out _; (with_reducible repeat (first | refine blk_drewN ?_ _ | refine blk_drew ?_ | refine blk_alloc ?_ _)); refine blk_far ?_ NB103_102.out _; (with_reducible repeat (first | refine blk_drewN ?_ _ | refine blk_drew ?_ | refine blk_alloc ?_ _)); refine blk_far ?_ NB103_102.out _; (with_reducible repeat (first | refine blk_drewN ?_ _ | refine blk_drew ?_ | refine blk_alloc ?_ _)); exact BK103.out⟩, ⟨by repeat (first | (with_reducible first | exact HB.out | apply below_alloc | apply pw_below_drewN | apply below_drew1 | refine below_set ?_ GE102.out | refine below_set ?_ GE103.out) | exact HB.out)⟩⟩
          · rw [if_neg c16] at H
            have c16b0 : (a0_0 == 1) = false := beq_eq_false_iff_ne.mpr c16
            have c16b1 : (a0_0 != 1) = true := bne_iff_ne.mpr c16
            (first | rw [c16b0] | (simp only [i64_w, i32_w]; rw [c16b0]) | skip)
            have H' := Aside0.mk H
            clear H
            have hnb23 := NB102_103.out
            have hnc23 := NB103_102.out
            have hcz24_0 : wc.cell? ⟨gb102, 0, none⟩ = some (.int .i64 a0_0) := (blk_cell BK102.out 0).trans rfl
            have hcz24_1 : wc.cell? ⟨gb102, 1, none⟩ = some (.int .u64 a0_1) := (blk_cell BK102.out 1).trans rfl
            have hcz24_2 : wc.cell? ⟨gb102, 2, none⟩ = some (.int .u64 a0_2) := (blk_cell BK102.out 2).trans rfl
            have hcz24_3 : wc.cell? ⟨gb102, 3, none⟩ = some (.int .u64 a0_3) := (blk_cell BK102.out 3).trans rfl
            have hcz24_4 : wc.cell? ⟨gb102, 4, none⟩ = some (.int .u64 a0_4) := (blk_cell BK102.out 4).trans rfl
            have hcz24_5 : wc.cell? ⟨gb102, 5, none⟩ = some (.int .u64 a0_5) := (blk_cell BK102.out 5).trans rfl
            have hcz24_6 : wc.cell? ⟨gb102, 6, none⟩ = some (.int .u64 a0_6) := (blk_cell BK102.out 6).trans rfl
            have hfz24_0 := blk_frozen BK102.out 0
            have hfz24_1 := blk_frozen BK102.out 1
            have hfz24_2 := blk_frozen BK102.out 2
            have hfz24_3 := blk_frozen BK102.out 3
            have hfz24_4 := blk_frozen BK102.out 4
            have hfz24_5 := blk_frozen BK102.out 5
            have hfz24_6 := blk_frozen BK102.out 6
            go_wp2
            go_meet
            case rel => exact ⟨_, (a0_0), (a2), (a0_3), (18446744073709551615), (0), (a0_6), H', ⟨by have := HJ4.out; first | omega | exact Nat.le_refl _⟩, ⟨by (with_reducible repeat (first | refine blk_drewN ?_ _ | refine blk_drew ?_ | refine blk_alloc ?_ _)); refine blk_put (cs := #[.int .i64 a0_0, .int .u64 a0_1, .int .u64 a0_3, .int .u64 18446744073709551615, .int .u64 0, .int .u64 a0_5, .int .u64 a0_6]) ?_ 1 _ rfl; (with_reducible repeat (first | refine blk_drewN ?_ _ | refine blk_drew ?_ | refine blk_alloc ?_ _)); refine blk_put (cs := #[.int .i64 a0_0, .int .u64 a0_1, .int .u64 a0_3, .int .u64 18446744073709551615, .int .u64 a0_4, .int .u64 a0_5, .int .u64 a0_6]) ?_ 4 _ rfl; (with_reducible repeat (first | refine blk_drewN ?_ _ | refine blk_drew ?_ | refine blk_alloc ?_ _)); refine blk_put (cs := #[.int .i64 a0_0, .int .u64 a0_1, .int .u64 a0_3, .int .u64 a0_3, .int .u64 a0_4, .int .u64 a0_5, .int .u64 a0_6]) ?_ 3 _ rfl; (with_reducible repeat (first | refine blk_drewN ?_ _ | refine blk_drew ?_ | refine blk_alloc ?_ _)); refine blk_put (cs := #[.int .i64 a0_0, .int .u64 a0_1, .int .u64 a0_2, .int .u64 a0_3, .int .u64 a0_4, .int .u64 a0_5, .int .u64 a0_6]) ?_ 2 _ rfl; (with_reducible repeat (first | refine blk_drewN ?_ _ | refine blk_drew ?_ | refine blk_alloc ?_ _)); exact BK102.out⟩, ⟨by (with_reducible repeat (first | refine blk_drewN ?_ _ | refine blk_drew ?_ | refine blk_alloc ?_ _)); refine blk_far ?_ NB103_102.out _; (with_reducible repeat (first | refine blk_drewN ?_ _ | refine blk_drew ?_ | refine blk_alloc ?_ _)); refine blk_far ?_ NB103_102.out _; (with_reducible repeat (first | refine blk_drewN ?_ _ | refine blk_drew ?_ | refine blk_alloc ?_ _)); refine blk_far ?_ NB103_102.out _; (with_reducible repeat (first | refine blk_drewN ?_ _ | refine blk_drew ?_ | refine blk_alloc ?_ _)); refine blk_far ?_ NB103_102.out _; (with_reducible repeat (first | refine blk_drewN ?_ _ | refine blk_drew ?_ | refine blk_alloc ?_ _)); exact BK103.out⟩, ⟨by repeat (first | (with_reducible first | exact HB.out | apply below_alloc | apply pw_below_drewN | apply below_drew1 | refine below_set ?_ GE102.out | refine below_set ?_ GE103.out) | exact HB.out)⟩⟩
        · replace c15 := Bool.eq_false_iff.mpr c15
          subst c15
          have H1 : (hystart_Sample.j1 kj4 a3 a0_0 a0_1 a0_2 a0_3 a0_4 a0_5 a0_6) = some (r1, r2, r3, r4, r5, r6, r7) := by rw [if_neg (show ¬ (false = true) by decide)] at H; exact H
          clear H
          have H := H1
          clear H1
          have H' := Aside0.mk H
          clear H
          go_wp2
          go_meet
          case rel => exact ⟨_, (a0_0), (a0_1), (a0_2), (a0_3), (a0_4), (a0_6), H', ⟨by have := HJ4.out; first | omega | exact Nat.le_refl _⟩, ⟨by (with_reducible repeat (first | refine blk_drewN ?_ _ | refine blk_drew ?_ | refine blk_alloc ?_ _)); exact BK102.out⟩, ⟨by (with_reducible repeat (first | refine blk_drewN ?_ _ | refine blk_drew ?_ | refine blk_alloc ?_ _)); exact BK103.out⟩, ⟨by repeat (first | (with_reducible first | exact HB.out | apply below_alloc | apply pw_below_drewN | apply below_drew1 | refine below_set ?_ GE102.out | refine below_set ?_ GE103.out) | exact HB.out)⟩⟩
      case rest =>
        clear HC14
        try clear c1
        try clear c2
        try clear p2
        try clear c9
        try clear c10
        try clear c12
        try clear c15
        try clear c16
        try clear c16b0
        try clear c16b1
        try clear c18
        try clear c18b0
        try clear c18b1
        try clear c19
        try clear c21
        try clear c23
        try clear hcz13_0
        try clear hcz13_1
        try clear hcz13_2
        try clear hcz13_3
        try clear hcz13_4
        try clear hcz13_5
        try clear hcz13_6
        try clear hcz20_0
        try clear hcz20_1
        try clear hcz20_2
        try clear hcz20_3
        try clear hcz20_4
        try clear hcz20_5
        try clear hcz20_6
        try clear hcz22_0
        try clear hcz22_1
        try clear hcz22_2
        try clear hcz22_3
        try clear hcz22_4
        try clear hcz22_5
        try clear hcz22_6
        try clear hcz24_0
        try clear hcz24_1
        try clear hcz24_2
        try clear hcz24_3
        try clear hcz24_4
        try clear hcz24_5
        try clear hcz24_6
        try clear hfz13_0
        try clear hfz13_1
        try clear hfz13_2
        try clear hfz13_3
        try clear hfz13_4
        try clear hfz13_5
        try clear hfz13_6
        try clear hfz20_0
        try clear hfz20_1
        try clear hfz20_2
        try clear hfz20_3
        try clear hfz20_4
        try clear hfz20_5
        try clear hfz20_6
        try clear hfz22_0
        try clear hfz22_1
        try clear hfz22_2
        try clear hfz22_3
        try clear hfz22_4
        try clear hfz22_5
        try clear hfz22_6
        try clear hfz24_0
        try clear hfz24_1
        try clear hfz24_2
        try clear hfz24_3
        try clear hfz24_4
        try clear hfz24_5
        try clear hfz24_6
        try clear p2
        obtain ⟨kq, x103000_13, x103001_13, x103002_13, x103003_13, x103004_13, x103006_13, HA, HJ13, BK102, BK103, HB⟩ := hcut
        cases kq with
        | zero => exact absurd HA.out (by simp [hystart_Sample.j1])
        | succ kj13 =>
          have H := HA.out
          clear HA
          simp only [hystart_Sample.j1] at H
          replace H := Option.bind_eq_some_iff.mp H
          obtain ⟨t106, A250, H⟩ := H
          replace H : (if t106 = true then (some (x103000_13, x103001_13, x103002_13, x103003_13, x103004_13, a0_5, x103006_13)) else ((fix_Add.f x103004_13 1).bind fun t107 => (if t107 < 8 then (hystart_Sample.j2 kj13 true x103000_13 x103001_13 x103002_13 (mn x103003_13 a3) t107 a0_5 x103006_13) else (if (mn x103003_13 a3) = 18446744073709551615 then (hystart_Sample.j2 kj13 true x103000_13 x103001_13 x103002_13 (mn x103003_13 a3) t107 a0_5 x103006_13) else (hystart_Sample.j2 kj13 (x103002_13 == 18446744073709551615) x103000_13 x103001_13 x103002_13 (mn x103003_13 a3) t107 a0_5 x103006_13))))) = some (r1, r2, r3, r4, r5, r6, r7) := H
          have A25 := Aside0.mk A250
          clear A250
          by_cases c26 : t106 = true
          · subst c26
            have H1 : (some (x103000_13, x103001_13, x103002_13, x103003_13, x103004_13, a0_5, x103006_13)) = some (r1, r2, r3, r4, r5, r6, r7) := by rw [if_pos rfl] at H; exact H
            clear H
            have H := H1
            clear H1
            simp only [Option.some.injEq, Prod.mk.injEq] at H
            obtain ⟨rfl, rfl, rfl, rfl, rfl, rfl, rfl⟩ := H
            go_wp2_with (first | ((refine gate_closure (f := 18) rfl rfl ?_); refine goesC_ (some 40) rfl rfl Try.func18 (by kernel_rfl) rfl #[.pointer (some ⟨gb102, 0, none⟩)] rfl rfl (by (try simp only [List.map_toArray, List.map_cons, List.map_nil]); first | done | rfl | (simp only [List.length_drop, List.length_take]; rfl)) ?_; (with_reducible refine (hystart_Sample_1.calls x103000_13 x103001_13 x103002_13 x103003_13 x103004_13 a0_5 x103006_13 true _ ?side1 A25.out).mono ?_); (case side1 => exact (by (with_reducible repeat (first | refine blk_drewN ?_ _ | refine blk_drew ?_ | refine blk_alloc ?_ _)); exact BK102.out)); rintro e w27 ⟨rfl, hb⟩; refine ⟨_, rfl, ?_⟩; have n0_ := Aside0.mk (blk_below (g := gb102) (o := .cells #[.int .i64 x103000_13, .int .u64 x103001_13, .int .u64 x103002_13, .int .u64 x103003_13, .int .u64 x103004_13, .int .u64 a0_5, .int .u64 x103006_13] 25 (0, 0)) (by (with_reducible repeat (first | refine blk_drewN ?_ _ | refine blk_drew ?_ | refine blk_alloc ?_ _)); exact BK102.out) hb); have n1_ := Aside0.mk (blk_below (g := gb103) (o := .cells #[.int .i64 0, .int .u64 0, .int .u64 0, .int .u64 0, .int .u64 0, .int .u64 0, .int .u64 0] 25 (0, 0)) (by (with_reducible repeat (first | refine blk_drewN ?_ _ | refine blk_drew ?_ | refine blk_alloc ?_ _)); exact BK103.out) hb); have n2_ := Aside0.mk (below_step (by repeat (first | (with_reducible first | exact HB.out | apply below_alloc | apply pw_below_drewN | apply below_drew1 | refine below_set ?_ GE102.out | refine below_set ?_ GE103.out) | exact HB.out)) hb); clear BK102; clear BK103; clear HB; have BK102 := n0_; have BK103 := n1_; have HB := n2_; clear n0_ n1_ n2_; (try clear hb); (try clear hb2); (try clear hk); (try clear hi); have hnb28 := NB102_103.out; have hnc28 := NB103_102.out; have hcz29_0 : w27.cell? ⟨gb102, 0, none⟩ = some (.int .i64 x103000_13) := (blk_cell BK102.out 0).trans rfl; have hcz29_1 : w27.cell? ⟨gb102, 1, none⟩ = some (.int .u64 x103001_13) := (blk_cell BK102.out 1).trans rfl; have hcz29_2 : w27.cell? ⟨gb102, 2, none⟩ = some (.int .u64 x103002_13) := (blk_cell BK102.out 2).trans rfl; have hcz29_3 : w27.cell? ⟨gb102, 3, none⟩ = some (.int .u64 x103003_13) := (blk_cell BK102.out 3).trans rfl; have hcz29_4 : w27.cell? ⟨gb102, 4, none⟩ = some (.int .u64 x103004_13) := (blk_cell BK102.out 4).trans rfl; have hcz29_5 : w27.cell? ⟨gb102, 5, none⟩ = some (.int .u64 a0_5) := (blk_cell BK102.out 5).trans rfl; have hcz29_6 : w27.cell? ⟨gb102, 6, none⟩ = some (.int .u64 x103006_13) := (blk_cell BK102.out 6).trans rfl; have hfz29_0 := blk_frozen BK102.out 0; have hfz29_1 := blk_frozen BK102.out 1; have hfz29_2 := blk_frozen BK102.out 2; have hfz29_3 := blk_frozen BK102.out 3; have hfz29_4 := blk_frozen BK102.out 4; have hfz29_5 := blk_frozen BK102.out 5; have hfz29_6 := blk_frozen BK102.out 6; have hcz30_0 : w27.cell? ⟨gb103, 0, none⟩ = some (.int .i64 0) := (blk_cell BK103.out 0).trans rfl; have hcz30_1 : w27.cell? ⟨gb103, 1, none⟩ = some (.int .u64 0) := (blk_cell BK103.out 1).trans rfl; have hcz30_2 : w27.cell? ⟨gb103, 2, none⟩ = some (.int .u64 0) := (blk_cell BK103.out 2).trans rfl; have hcz30_3 : w27.cell? ⟨gb103, 3, none⟩ = some (.int .u64 0) := (blk_cell BK103.out 3).trans rfl; have hcz30_4 : w27.cell? ⟨gb103, 4, none⟩ = some (.int .u64 0) := (blk_cell BK103.out 4).trans rfl; have hcz30_5 : w27.cell? ⟨gb103, 5, none⟩ = some (.int .u64 0) := (blk_cell BK103.out 5).trans rfl; have hcz30_6 : w27.cell? ⟨gb103, 6, none⟩ = some (.int .u64 0) := (blk_cell BK103.out 6).trans rfl; have hfz30_0 := blk_frozen BK103.out 0; have hfz30_1 := blk_frozen BK103.out 1; have hfz30_2 := blk_frozen BK103.out 2; have hfz30_3 := blk_frozen BK103.out 3; have hfz30_4 := blk_frozen BK103.out 4; have hfz30_5 := blk_frozen BK103.out 5; have hfz30_6 := blk_frozen BK103.out 6))
            refine bodyPost_ret (results_cell_row rfl _ _ gb103 25 #[.int .i64 x103000_13, .int .u64 x103001_13, .int .u64 x103002_13, .int .u64 x103003_13, .int .u64 x103004_13, .int .u64 a0_5, .int .u64 x103006_13] (0, 0) _ rfl (by (with_reducible repeat (first | refine blk_drewN ?_ _ | refine blk_drew ?_ | refine blk_alloc ?_ _)); refine blk_put (cs := #[.int .i64 x103000_13, .int .u64 x103001_13, .int .u64 x103002_13, .int .u64 x103003_13, .int .u64 x103004_13, .int .u64 a0_5, .int .u64 0]) ?_ 6 _ rfl; (with_reducible repeat (first | refine blk_drewN ?_ _ | refine blk_drew ?_ | refine blk_alloc ?_ _)); refine blk_put (cs := #[.int .i64 x103000_13, .int .u64 x103001_13, .int .u64 x103002_13, .int .u64 x103003_13, .int .u64 x103004_13, .int .u64 0, .int .u64 0]) ?_ 5 _ rfl; (with_reducible repeat (first | refine blk_drewN ?_ _ | refine blk_drew ?_ | refine blk_alloc ?_ _)); refine blk_put (cs := #[.int .i64 x103000_13, .int .u64 x103001_13, .int .u64 x103002_13, .int .u64 x103003_13, .int .u64 0, .int .u64 0, .int .u64 0]) ?_ 4 _ rfl; (with_reducible repeat (first | refine blk_drewN ?_ _ | refine blk_drew ?_ | refine blk_alloc ?_ _)); refine blk_put (cs := #[.int .i64 x103000_13, .int .u64 x103001_13, .int .u64 x103002_13, .int .u64 0, .int .u64 0, .int .u64 0, .int .u64 0]) ?_ 3 _ rfl; (with_reducible repeat (first | refine blk_drewN ?_ _ | refine blk_drew ?_ | refine blk_alloc ?_ _)); refine blk_put (cs := #[.int .i64 x103000_13, .int .u64 x103001_13, .int .u64 0, .int .u64 0, .int .u64 0, .int .u64 0, .int .u64 0]) ?_ 2 _ rfl; (with_reducible repeat (first | refine blk_drewN ?_ _ | refine blk_drew ?_ | refine blk_alloc ?_ _)); refine blk_put (cs := #[.int .i64 x103000_13, .int .u64 0, .int .u64 0, .int .u64 0, .int .u64 0, .int .u64 0, .int .u64 0]) ?_ 1 _ rfl; (with_reducible repeat (first | refine blk_drewN ?_ _ | refine blk_drew ?_ | refine blk_alloc ?_ _)); refine blk_put (cs := #[.int .i64 0, .int .u64 0, .int .u64 0, .int .u64 0, .int .u64 0, .int .u64 0, .int .u64 0]) ?_ 0 _ rfl; (with_reducible repeat (first | refine blk_drewN ?_ _ | refine blk_drew ?_ | refine blk_alloc ?_ _)); exact BK103.out) Try.underlying25 rfl (by kernel_rfl)) rfl ?_
            exact ⟨by first | rfl | (simp [errW_none, errW_some] <;> rfl) | (simp [*, errW_none, errW_some] <;> rfl), by repeat (first | (with_reducible first | exact HB.out | apply below_alloc | apply pw_below_drewN | apply below_drew1 | refine below_set ?_ GE102.out | refine below_set ?_ GE103.out) | exact HB.out)⟩
          · replace c26 := Bool.eq_false_iff.mpr c26
            subst c26
            have H1 : ((fix_Add.f x103004_13 1).bind fun t107 => (if t107 < 8 then (hystart_Sample.j2 kj13 true x103000_13 x103001_13 x103002_13 (mn x103003_13 a3) t107 a0_5 x103006_13) else (if (mn x103003_13 a3) = 18446744073709551615 then (hystart_Sample.j2 kj13 true x103000_13 x103001_13 x103002_13 (mn x103003_13 a3) t107 a0_5 x103006_13) else (hystart_Sample.j2 kj13 (x103002_13 == 18446744073709551615) x103000_13 x103001_13 x103002_13 (mn x103003_13 a3) t107 a0_5 x103006_13)))) = some (r1, r2, r3, r4, r5, r6, r7) := by rw [if_neg (show ¬ (false = true) by decide)] at H; exact H
            clear H
            have H := H1
            clear H1
            obtain ⟨ji31, hji31⟩ : ∃ j_ : Int, (mn x103003_13 a3) = j_ := ⟨_, rfl⟩
            replace H : ((fix_Add.f x103004_13 1).bind fun t107 => (if t107 < 8 then (hystart_Sample.j2 kj13 true x103000_13 x103001_13 x103002_13 ji31 t107 a0_5 x103006_13) else (if (ji31) = 18446744073709551615 then (hystart_Sample.j2 kj13 true x103000_13 x103001_13 x103002_13 ji31 t107 a0_5 x103006_13) else (hystart_Sample.j2 kj13 (x103002_13 == 18446744073709551615) x103000_13 x103001_13 x103002_13 ji31 t107 a0_5 x103006_13)))) = some (r1, r2, r3, r4, r5, r6, r7) := by first | (rw [hji31] at H; exact H) | (simp only [hji31] at H ⊢; exact H)
            (try rw [hji31] at A25)
            have hji31_ : (if a3 < x103003_13 then a3 else x103003_13) = ji31 := hji31
            replace H := Option.bind_eq_some_iff.mp H
            obtain ⟨t107, A320, H⟩ := H
            replace H : (if t107 < 8 then (hystart_Sample.j2 kj13 true x103000_13 x103001_13 x103002_13 ji31 t107 a0_5 x103006_13) else (if (ji31) = 18446744073709551615 then (hystart_Sample.j2 kj13 true x103000_13 x103001_13 x103002_13 ji31 t107 a0_5 x103006_13) else (hystart_Sample.j2 kj13 (x103002_13 == 18446744073709551615) x103000_13 x103001_13 x103002_13 ji31 t107 a0_5 x103006_13))) = some (r1, r2, r3, r4, r5, r6, r7) := H
            have A32 := Aside0.mk A320
            clear A320
            have HC33 := Aside0.mk H
            clear H
            try go_wp2_with (first | ((refine gate_closure (f := 18) rfl rfl ?_); refine goesC_ (some 40) rfl rfl Try.func18 (by kernel_rfl) rfl #[.pointer (some ⟨gb102, 0, none⟩)] rfl rfl (by (try simp only [List.map_toArray, List.map_cons, List.map_nil]); first | done | rfl | (simp only [List.length_drop, List.length_take]; rfl)) ?_; (with_reducible refine (hystart_Sample_1.calls x103000_13 x103001_13 x103002_13 x103003_13 x103004_13 a0_5 x103006_13 false _ ?side1 A25.out).mono ?_); (case side1 => exact (by (with_reducible repeat (first | refine blk_drewN ?_ _ | refine blk_drew ?_ | refine blk_alloc ?_ _)); exact BK102.out)); rintro e w34 ⟨rfl, hb⟩; refine ⟨_, rfl, ?_⟩; have n0_ := Aside0.mk (blk_below (g := gb102) (o := .cells #[.int .i64 x103000_13, .int .u64 x103001_13, .int .u64 x103002_13, .int .u64 x103003_13, .int .u64 x103004_13, .int .u64 a0_5, .int .u64 x103006_13] 25 (0, 0)) (by (with_reducible repeat (first | refine blk_drewN ?_ _ | refine blk_drew ?_ | refine blk_alloc ?_ _)); exact BK102.out) hb); have n1_ := Aside0.mk (blk_below (g := gb103) (o := .cells #[.int .i64 0, .int .u64 0, .int .u64 0, .int .u64 0, .int .u64 0, .int .u64 0, .int .u64 0] 25 (0, 0)) (by (with_reducible repeat (first | refine blk_drewN ?_ _ | refine blk_drew ?_ | refine blk_alloc ?_ _)); exact BK103.out) hb); have n2_ := Aside0.mk (below_step (by repeat (first | (with_reducible first | exact HB.out | apply below_alloc | apply pw_below_drewN | apply below_drew1 | refine below_set ?_ GE102.out | refine below_set ?_ GE103.out) | exact HB.out)) hb); clear BK102; clear BK103; clear HB; have BK102 := n0_; have BK103 := n1_; have HB := n2_; clear n0_ n1_ n2_; (try clear hb); (try clear hb2); (try clear hk); (try clear hi)))
            have n0_ := Aside0.mk (blk_drew BK102.out)
            have n1_ := Aside0.mk (blk_drew BK103.out)
            have n2_ := Aside0.mk (below_drew1 HB.out)
            clear BK102
            clear BK103
            clear HB
            have BK102 := n0_
            have BK103 := n1_
            have HB := n2_
            clear n0_ n1_ n2_
            refine start_ (n := 11) (S := fun w' => w'.cell? ⟨gb102, 0, none⟩ = some (.int .i64 x103000_13) ∧ w'.cell? ⟨gb102, 1, none⟩ = some (.int .u64 x103001_13) ∧ w'.cell? ⟨gb102, 2, none⟩ = some (.int .u64 x103002_13) ∧ w'.cell? ⟨gb102, 3, none⟩ = some (.int .u64 x103003_13) ∧ w'.cell? ⟨gb102, 4, none⟩ = some (.int .u64 x103004_13) ∧ w'.cell? ⟨gb102, 5, none⟩ = some (.int .u64 a0_5) ∧ w'.cell? ⟨gb102, 6, none⟩ = some (.int .u64 x103006_13)) (ds := [8, 10]) #[false, false, false, false, false, false, false, false, false, false, false] (by kernel_rfl) rfl rfl ⟨(blk_cell BK102.out 0).trans rfl, (blk_cell BK102.out 1).trans rfl, (blk_cell BK102.out 2).trans rfl, (blk_cell BK102.out 3).trans rfl, (blk_cell BK102.out 4).trans rfl, (blk_cell BK102.out 5).trans rfl, (blk_cell BK102.out 6).trans rfl⟩ (fun hHeld => ?_); refine with_tabW hystart_Sample.tab10 hystart_Sample.bits10 (fun HT_ HW_ => ?_)
            generalize w34.drew = w35 at BK102 BK103 HB hHeld ⊢
            refine pure_ (i := 0) (N := some 42) (v := ?_) (a' := ?_) #[true, false, false, false, false, false, false, false, false, false, false] rfl rfl (any_of HT_.out (by kernel_rfl)) (fun _ _ _ h => h) (Or.inl ⟨by rfl, ?_⟩) ?_ ?_
            rotate_left
            · intro w'
              go_simp
              with_reducible rfl
            rotate_left
            · simp only [Act.put, List.setIfInBounds_toArray, List.set_cons_zero, List.set_cons_succ, i64_w, i32_w]
              rfl
            refine pure_ (i := 2) (N := some 44) (v := ?_) (a' := ?_) #[true, false, true, false, false, false, false, false, false, false, false] rfl rfl (any_of HT_.out (by kernel_rfl)) (fun _ _ _ h => h) (Or.inl ⟨by rfl, ?_⟩) ?_ ?_
            rotate_left
            · intro w'
              go_simp
              with_reducible rfl
            rotate_left
            · simp only [Act.put, List.setIfInBounds_toArray, List.set_cons_zero, List.set_cons_succ, i64_w, i32_w]
              rfl
            refine pure_ (i := 4) (N := some 46) (v := ?_) (a' := ?_) #[true, false, true, false, true, false, false, false, false, false, false] rfl rfl (any_of HT_.out (by kernel_rfl)) (fun _ _ _ h => h) (Or.inl ⟨by rfl, ?_⟩) ?_ ?_
            rotate_left
            · intro w'
              go_simp
              with_reducible rfl
            rotate_left
            · simp only [Act.put, List.setIfInBounds_toArray, List.set_cons_zero, List.set_cons_succ, i64_w, i32_w]
              rfl
            refine take_ (i := 1) (N := some 43) (v := ?_) (a' := ?_) #[true, true, true, false, true, false, false, false, false, false, false] rfl rfl (take_ofW HT_.out HW_.out (by kernel_rfl)) (fun _ _ _ h => h) (Or.inl ⟨by rfl, ?_⟩) hHeld ?_ ?_
            rotate_left
            · rintro w' ⟨s0, s1, s2, s3, s4, s5, s6⟩
              go_simp
              with_reducible rfl
            rotate_left
            · simp only [Act.put, List.setIfInBounds_toArray, List.set_cons_zero, List.set_cons_succ, i64_w, i32_w]
              rfl
            refine pure_ (i := 3) (N := some 45) (v := ?_) (a' := ?_) #[true, true, true, true, true, false, false, false, false, false, false] rfl rfl (any_of HT_.out (by kernel_rfl)) (fun _ _ _ h => h) (Or.inl ⟨by rfl, ?_⟩) ?_ ?_
            rotate_left
            · intro w'
              go_simp
              with_reducible rfl
            rotate_left
            · simp only [Act.put, List.setIfInBounds_toArray, List.set_cons_zero, List.set_cons_succ, i64_w, i32_w]
              rfl
            refine take_ (i := 5) (N := some 47) (v := ?_) (a' := ?_) #[true, true, true, true, true, true, false, false, false, false, false] rfl rfl (take_ofW HT_.out HW_.out (by kernel_rfl)) (fun _ _ _ h => h) (Or.inl ⟨by rfl, ?_⟩) hHeld ?_ ?_
            rotate_left
            · rintro w' ⟨s0, s1, s2, s3, s4, s5, s6⟩
              go_simp
              with_reducible rfl
            rotate_left
            · simp only [Act.put, List.setIfInBounds_toArray, List.set_cons_zero, List.set_cons_succ, i64_w, i32_w]
              rfl
            refine pure_ (i := 7) (N := some 49) (v := ?_) (a' := ?_) #[true, true, true, true, true, true, false, true, false, false, false] rfl rfl (any_of HT_.out (by kernel_rfl)) (fun _ _ _ h => h) (Or.inl ⟨by rfl, ?_⟩) ?_ ?_
            rotate_left
            · intro w'
              go_simp
              with_reducible rfl
            rotate_left
            · simp only [Act.put, List.setIfInBounds_toArray, List.set_cons_zero, List.set_cons_succ, i64_w, i32_w]
              rfl
            refine one_ (i := 6) (N := some 48) #[true, true, true, true, true, true, true, true, false, false, false] rfl rfl (one_of HT_.out (by kernel_rfl)) (by decide) (fun K hK => ?_)
            refine goes_ Try.func19 (by kernel_rfl) rfl #[.int .u64 x103004_13, .int .u64 1] (by rfl) rfl rfl (by (try simp only [List.map_toArray, List.map_cons, List.map_nil]); first | done | rfl | (simp only [List.length_drop, List.length_take]; rfl)) ?_
            with_reducible refine (fix_Add.calls x103004_13 1 t107 _ A32.out).mono ?_
            rintro e w' ⟨rfl, ⟨nd, rfl⟩⟩
            refine ⟨_, rfl, ?_⟩
            refine hK.out _ _ ⟨(blk_cell BK102.out 0).trans rfl, (blk_cell BK102.out 1).trans rfl, (blk_cell BK102.out 2).trans rfl, (blk_cell BK102.out 3).trans rfl, (blk_cell BK102.out 4).trans rfl, (blk_cell BK102.out 5).trans rfl, (blk_cell BK102.out 6).trans rfl⟩ (fun hHeld => ?_)
            clear hK K
            refine norm_ (a' := ?_) ?_ ?_
            rotate_left
            · show Act.put _ (some 48) _ = _
              simp only [Act.put, List.setIfInBounds_toArray, List.set_cons_zero, List.set_cons_succ, i64_w, i32_w]
              rfl
            refine last_ (i := 8) (N := none) #[true, true, true, true, true, true, true, true, true, false, false] rfl rfl (one_of HT_.out (by kernel_rfl)) (by decide) (fun K hK => ?_)
            have hs36 : w35.cell? ⟨gb102, 3, none⟩ = some (.int .u64 x103003_13) := (blk_cell BK102.out 3).trans rfl
            have hfs36 := blk_frozen BK102.out 3
            have hns36_1 := NB103_102.out
            have hms36_1 := NB102_103.out
            refine skip_ (w1 := ?_) (by rfl) rfl ?_ ?_
            rotate_left
            · go_simp
              rfl
            refine hK.out _ _ ?_
            clear hK K
            refine pure_ (i := 9) (N := some 50) (v := ?_) (a' := ?_) #[true, true, true, true, true, true, true, true, true, true, false] rfl rfl (any_of HT_.out (by kernel_rfl)) (fun _ _ _ h => h) (Or.inl ⟨by rfl, ?_⟩) ?_ ?_
            rotate_left
            · intro w'
              go_simp
              with_reducible rfl
            rotate_left
            · simp only [Act.put, List.setIfInBounds_toArray, List.set_cons_zero, List.set_cons_succ, i64_w, i32_w]
              rfl
            refine last_ (i := 10) (N := none) #[true, true, true, true, true, true, true, true, true, true, true] rfl rfl (one_of HT_.out (by kernel_rfl)) (by decide) (fun K hK => ?_)
            have hs37 : w35.cell? ⟨gb102, 4, none⟩ = some (.int .u64 x103004_13) := (blk_cell BK102.out 4).trans rfl
            have hfs37 := blk_frozen BK102.out 4
            have hns37_1 := NB103_102.out
            have hms37_1 := NB102_103.out
            refine skip_ (w1 := ?_) (by rfl) rfl ?_ ?_
            rotate_left
            · go_simp
              rfl
            refine hK.out _ _ ?_
            clear hK K
            refine done_ (done_of HT_.out (by kernel_rfl)) ?_
            go_upto_region 11 with (fail)
            go_cut [63] (fun v63 wc => ∃ (kq : Nat) (x63_32 : Bool), v63 = .bool x63_32 ∧ Aside0 (hystart_Sample.j2 kq x63_32 x103000_13 x103001_13 x103002_13 ji31 t107 a0_5 x103006_13 = some (r1, r2, r3, r4, r5, r6, r7)) ∧ Aside0 (kq ≤ kj13) ∧ Aside0 (wc.heap[gb102]? = some (.cells #[.int .i64 x103000_13, .int .u64 x103001_13, .int .u64 x103002_13, .int .u64 ji31, .int .u64 t107, .int .u64 a0_5, .int .u64 x103006_13] 25 (0, 0))) ∧ Aside0 (wc.heap[gb103]? = some (.cells #[.int .i64 0, .int .u64 0, .int .u64 0, .int .u64 0, .int .u64 0, .int .u64 0, .int .u64 0] 25 (0, 0))) ∧ Aside0 (Below w.heap.size w wc))
            case first =>
              have H := HC33.out
              clear HC33
              by_cases c38 : t107 < 8
              · rw [if_pos c38] at H
                have c38b0 : decide (t107 < 8) = true := decide_eq_true c38
                clear c38
                (first | rw [c38b0] | (simp only [i64_w, i32_w]; rw [c38b0]) | skip)
                have H' := Aside0.mk H
                clear H
                have hnb39 := NB102_103.out
                have hnc39 := NB103_102.out
                have hcz40_0 : w35.cell? ⟨gb102, 0, none⟩ = some (.int .i64 x103000_13) := (blk_cell BK102.out 0).trans rfl
                have hcz40_1 : w35.cell? ⟨gb102, 1, none⟩ = some (.int .u64 x103001_13) := (blk_cell BK102.out 1).trans rfl
                have hcz40_2 : w35.cell? ⟨gb102, 2, none⟩ = some (.int .u64 x103002_13) := (blk_cell BK102.out 2).trans rfl
                have hcz40_3 : w35.cell? ⟨gb102, 3, none⟩ = some (.int .u64 x103003_13) := (blk_cell BK102.out 3).trans rfl
                have hcz40_4 : w35.cell? ⟨gb102, 4, none⟩ = some (.int .u64 x103004_13) := (blk_cell BK102.out 4).trans rfl
                have hcz40_5 : w35.cell? ⟨gb102, 5, none⟩ = some (.int .u64 a0_5) := (blk_cell BK102.out 5).trans rfl
                have hcz40_6 : w35.cell? ⟨gb102, 6, none⟩ = some (.int .u64 x103006_13) := (blk_cell BK102.out 6).trans rfl
                have hfz40_0 := blk_frozen BK102.out 0
                have hfz40_1 := blk_frozen BK102.out 1
                have hfz40_2 := blk_frozen BK102.out 2
                have hfz40_3 := blk_frozen BK102.out 3
                have hfz40_4 := blk_frozen BK102.out 4
                have hfz40_5 := blk_frozen BK102.out 5
                have hfz40_6 := blk_frozen BK102.out 6
                go_wp2
                go_meet
                case rel => exact ⟨_, (true), (by first | rfl | (simp; done) | (simp [*]; done)), H', ⟨by have := HJ4.out; have := HJ13.out; first | omega | exact Nat.le_refl _⟩, ⟨by (with_reducible repeat (first | refine blk_drewN ?_ _ | refine blk_drew ?_ | refine blk_alloc ?_ _)); refine blk_put (cs := #[.int .i64 x103000_13, .int .u64 x103001_13, .int .u64 x103002_13, .int .u64 ji31, .int .u64 x103004_13, .int .u64 a0_5, .int .u64 x103006_13]) ?_ 4 _ rfl; (with_reducible repeat (first | refine blk_drewN ?_ _ | refine blk_drew ?_ | refine blk_alloc ?_ _)); refine blk_put (cs := #[.int .i64 x103000_13, .int .u64 x103001_13, .int .u64 x103002_13, .int .u64 x103003_13, .int .u64 x103004_13, .int .u64 a0_5, .int .u64 x103006_13]) ?_ 3 _ rfl; (with_reducible repeat (first | refine blk_drewN ?_ _ | refine blk_drew ?_ | refine blk_alloc ?_ _)); exact BK102.out⟩, ⟨by (with_reducible repeat (first | refine blk_drewN ?_ _ | refine blk_drew ?_ | refine blk_alloc ?_ _)); refine blk_far ?_ NB103_102.out _; (with_reducible repeat (first | refine blk_drewN ?_ _ | refine blk_drew ?_ | refine blk_alloc ?_ _)); refine blk_far ?_ NB103_102.out _; (with_reducible repeat (first | refine blk_drewN ?_ _ | refine blk_drew ?_ | refine blk_alloc ?_ _)); exact BK103.out⟩, ⟨by repeat (first | (with_reducible first | exact HB.out | apply below_alloc | apply pw_below_drewN | apply below_drew1 | refine below_set ?_ GE102.out | refine below_set ?_ GE103.out) | exact HB.out)⟩⟩
              · rw [if_neg c38] at H
                have c38b0 : decide (t107 < 8) = false := decide_eq_false c38
                clear c38
                (first | rw [c38b0] | (simp only [i64_w, i32_w]; rw [c38b0]) | skip)
                by_cases c41 : (ji31) = 18446744073709551615
                · rw [if_pos c41] at H
                  have c41b0 : ((ji31) == 18446744073709551615) = true := beq_iff_eq.mpr c41
                  have c41b1 : ((ji31) != 18446744073709551615) = false := bne_eq_false_iff_eq.mpr c41
                  clear c41
                  have H' := Aside0.mk H
                  clear H
                  have hnb42 := NB102_103.out
                  have hnc42 := NB103_102.out
                  have hcz43_0 : w35.cell? ⟨gb102, 0, none⟩ = some (.int .i64 x103000_13) := (blk_cell BK102.out 0).trans rfl
                  have hcz43_1 : w35.cell? ⟨gb102, 1, none⟩ = some (.int .u64 x103001_13) := (blk_cell BK102.out 1).trans rfl
                  have hcz43_2 : w35.cell? ⟨gb102, 2, none⟩ = some (.int .u64 x103002_13) := (blk_cell BK102.out 2).trans rfl
                  have hcz43_3 : w35.cell? ⟨gb102, 3, none⟩ = some (.int .u64 x103003_13) := (blk_cell BK102.out 3).trans rfl
                  have hcz43_4 : w35.cell? ⟨gb102, 4, none⟩ = some (.int .u64 x103004_13) := (blk_cell BK102.out 4).trans rfl
                  have hcz43_5 : w35.cell? ⟨gb102, 5, none⟩ = some (.int .u64 a0_5) := (blk_cell BK102.out 5).trans rfl
                  have hcz43_6 : w35.cell? ⟨gb102, 6, none⟩ = some (.int .u64 x103006_13) := (blk_cell BK102.out 6).trans rfl
                  have hfz43_0 := blk_frozen BK102.out 0
                  have hfz43_1 := blk_frozen BK102.out 1
                  have hfz43_2 := blk_frozen BK102.out 2
                  have hfz43_3 := blk_frozen BK102.out 3
                  have hfz43_4 := blk_frozen BK102.out 4
                  have hfz43_5 := blk_frozen BK102.out 5
                  have hfz43_6 := blk_frozen BK102.out 6
                  go_wp2
                  go_meet
                  case rel => exact ⟨_, (true), (by first | rfl | (simp; done) | (simp [*]; done)), H', ⟨by have := HJ4.out; have := HJ13.out; first | omega | exact Nat.le_refl _⟩, ⟨by (with_reducible repeat (first | refine blk_drewN ?_ _ | refine blk_drew ?_ | refine blk_alloc ?_ _)); refine blk_put (cs := #[.int .i64 x103000_13, .int .u64 x103001_13, .int .u64 x103002_13, .int .u64 ji31, .int .u64 x103004_13, .int .u64 a0_5, .int .u64 x103006_13]) ?_ 4 _ rfl; (with_reducible repeat (first | refine blk_drewN ?_ _ | refine blk_drew ?_ | refine blk_alloc ?_ _)); refine blk_put (cs := #[.int .i64 x103000_13, .int .u64 x103001_13, .int .u64 x103002_13, .int .u64 x103003_13, .int .u64 x103004_13, .int .u64 a0_5, .int .u64 x103006_13]) ?_ 3 _ rfl; (with_reducible repeat (first | refine blk_drewN ?_ _ | refine blk_drew ?_ | refine blk_alloc ?_ _)); exact BK102.out⟩, ⟨by (with_reducible repeat (first | refine blk_drewN ?_ _ | refine blk_drew ?_ | refine blk_alloc ?_ _)); refine blk_far ?_ NB103_102.out _; (with_reducible repeat (first | refine blk_drewN ?_ _ | refine blk_drew ?_ | refine blk_alloc ?_ _)); refine blk_far ?_ NB103_102.out _; (with_reducible repeat (first | refine blk_drewN ?_ _ | refine blk_drew ?_ | refine blk_alloc ?_ _)); exact BK103.out⟩, ⟨by repeat (first | (with_reducible first | exact HB.out | apply below_alloc | apply pw_below_drewN | apply below_drew1 | refine below_set ?_ GE102.out | refine below_set ?_ GE103.out) | exact HB.out)⟩⟩
                · rw [if_neg c41] at H
                  have c41b0 : ((ji31) == 18446744073709551615) = false := beq_eq_false_iff_ne.mpr c41
                  have c41b1 : ((ji31) != 18446744073709551615) = true := bne_iff_ne.mpr c41
                  have H' := Aside0.mk H
                  clear H
                  have hnb44 := NB102_103.out
                  have hnc44 := NB103_102.out
                  have hcz45_0 : w35.cell? ⟨gb102, 0, none⟩ = some (.int .i64 x103000_13) := (blk_cell BK102.out 0).trans rfl
                  have hcz45_1 : w35.cell? ⟨gb102, 1, none⟩ = some (.int .u64 x103001_13) := (blk_cell BK102.out 1).trans rfl
                  have hcz45_2 : w35.cell? ⟨gb102, 2, none⟩ = some (.int .u64 x103002_13) := (blk_cell BK102.out 2).trans rfl
                  have hcz45_3 : w35.cell? ⟨gb102, 3, none⟩ = some (.int .u64 x103003_13) := (blk_cell BK102.out 3).trans rfl
                  have hcz45_4 : w35.cell? ⟨gb102, 4, none⟩ = some (.int .u64 x103004_13) := (blk_cell BK102.out 4).trans rfl
                  have hcz45_5 : w35.cell? ⟨gb102, 5, none⟩ = some (.int .u64 a0_5) := (blk_cell BK102.out 5).trans rfl
                  have hcz45_6 : w35.cell? ⟨gb102, 6, none⟩ = some (.int .u64 x103006_13) := (blk_cell BK102.out 6).trans rfl
                  have hfz45_0 := blk_frozen BK102.out 0
                  have hfz45_1 := blk_frozen BK102.out 1
                  have hfz45_2 := blk_frozen BK102.out 2
                  have hfz45_3 := blk_frozen BK102.out 3
                  have hfz45_4 := blk_frozen BK102.out 4
                  have hfz45_5 := blk_frozen BK102.out 5
                  have hfz45_6 := blk_frozen BK102.out 6
                  go_wp2
                  go_meet
                  case rel => exact ⟨_, ((x103002_13 == 18446744073709551615)), (by first | rfl | (simp; done) | (simp [*]; done)), H', ⟨by have := HJ4.out; have := HJ13.out; first | omega | exact Nat.le_refl _⟩, ⟨by (with_reducible repeat (first | refine blk_drewN ?_ _ | refine blk_drew ?_ | refine blk_alloc ?_ _)); refine blk_put (cs := #[.int .i64 x103000_13, .int .u64 x103001_13, .int .u64 x103002_13, .int .u64 ji31, .int .u64 x103004_13, .int .u64 a0_5, .int .u64 x103006_13]) ?_ 4 _ rfl; (with_reducible repeat (first | refine blk_drewN ?_ _ | refine blk_drew ?_ | refine blk_alloc ?_ _)); refine blk_put (cs := #[.int .i64 x103000_13, .int .u64 x103001_13, .int .u64 x103002_13, .int .u64 x103003_13, .int .u64 x103004_13, .int .u64 a0_5, .int .u64 x103006_13]) ?_ 3 _ rfl; (with_reducible repeat (first | refine blk_drewN ?_ _ | refine blk_drew ?_ | refine blk_alloc ?_ _)); exact BK102.out⟩, ⟨by (with_reducible repeat (first | refine blk_drewN ?_ _ | refine blk_drew ?_ | refine blk_alloc ?_ _)); refine blk_far ?_ NB103_102.out _; (with_reducible repeat (first | refine blk_drewN ?_ _ | refine blk_drew ?_ | refine blk_alloc ?_ _)); refine blk_far ?_ NB103_102.out _; (with_reducible repeat (first | refine blk_drewN ?_ _ | refine blk_drew ?_ | refine blk_alloc ?_ _)); exact BK103.out⟩, ⟨by repeat (first | (with_reducible first | exact HB.out | apply below_alloc | apply pw_below_drewN | apply below_drew1 | refine below_set ?_ GE102.out | refine below_set ?_ GE103.out) | exact HB.out)⟩⟩
            case rest =>
              clear HC33
              try clear c1
              try clear c2
              try clear p2
              try clear c3
              try clear c4
              try clear c9
              try clear c10
              try clear c12
              try clear c15
              try clear c16
              try clear c16b0
              try clear c16b1
              try clear c18
              try clear c18b0
              try clear c18b1
              try clear c19
              try clear c21
              try clear c23
              try clear c26
              try clear c28
              try clear c38
              try clear c38b0
              try clear c39
              try clear c41
              try clear c41b0
              try clear c41b1
              try clear c42
              try clear c44
              try clear hcz13_0
              try clear hcz13_1
              try clear hcz13_2
              try clear hcz13_3
              try clear hcz13_4
              try clear hcz13_5
              try clear hcz13_6
              try clear hcz20_0
              try clear hcz20_1
              try clear hcz20_2
              try clear hcz20_3
              try clear hcz20_4
              try clear hcz20_5
              try clear hcz20_6
              try clear hcz22_0
              try clear hcz22_1
              try clear hcz22_2
              try clear hcz22_3
              try clear hcz22_4
              try clear hcz22_5
              try clear hcz22_6
              try clear hcz24_0
              try clear hcz24_1
              try clear hcz24_2
              try clear hcz24_3
              try clear hcz24_4
              try clear hcz24_5
              try clear hcz24_6
              try clear hcz29_0
              try clear hcz29_1
              try clear hcz29_2
              try clear hcz29_3
              try clear hcz29_4
              try clear hcz29_5
              try clear hcz29_6
              try clear hcz30_0
              try clear hcz30_1
              try clear hcz30_2
              try clear hcz30_3
              try clear hcz30_4
              try clear hcz30_5
              try clear hcz30_6
              try clear hcz40_0
              try clear hcz40_1
              try clear hcz40_2
              try clear hcz40_3
              try clear hcz40_4
              try clear hcz40_5
              try clear hcz40_6
              try clear hcz43_0
              try clear hcz43_1
              try clear hcz43_2
              try clear hcz43_3
              try clear hcz43_4
              try clear hcz43_5
              try clear hcz43_6
              try clear hcz45_0
              try clear hcz45_1
              try clear hcz45_2
              try clear hcz45_3
              try clear hcz45_4
              try clear hcz45_5
              try clear hcz45_6
              try clear hfz13_0
              try clear hfz13_1
              try clear hfz13_2
              try clear hfz13_3
              try clear hfz13_4
              try clear hfz13_5
              try clear hfz13_6
              try clear hfz20_0
              try clear hfz20_1
              try clear hfz20_2
              try clear hfz20_3
              try clear hfz20_4
              try clear hfz20_5
              try clear hfz20_6
              try clear hfz22_0
              try clear hfz22_1
              try clear hfz22_2
              try clear hfz22_3
              try clear hfz22_4
              try clear hfz22_5
              try clear hfz22_6
              try clear hfz24_0
              try clear hfz24_1
              try clear hfz24_2
              try clear hfz24_3
              try clear hfz24_4
              try clear hfz24_5
              try clear hfz24_6
              try clear hfz29_0
              try clear hfz29_1
              try clear hfz29_2
              try clear hfz29_3
              try clear hfz29_4
              try clear hfz29_5
              try clear hfz29_6
              try clear hfz30_0
              try clear hfz30_1
              try clear hfz30_2
              try clear hfz30_3
              try clear hfz30_4
              try clear hfz30_5
              try clear hfz30_6
              try clear hfz40_0
              try clear hfz40_1
              try clear hfz40_2
              try clear hfz40_3
              try clear hfz40_4
              try clear hfz40_5
              try clear hfz40_6
              try clear hfz43_0
              try clear hfz43_1
              try clear hfz43_2
              try clear hfz43_3
              try clear hfz43_4
              try clear hfz43_5
              try clear hfz43_6
              try clear hfz45_0
              try clear hfz45_1
              try clear hfz45_2
              try clear hfz45_3
              try clear hfz45_4
              try clear hfz45_5
              try clear hfz45_6
              try clear p2
              obtain ⟨kq, x63_32, rfl, HA, HJ32, BK102, BK103, HB⟩ := hcut
              cases kq with
              | zero => exact absurd HA.out (by simp [hystart_Sample.j2])
              | succ kj32 =>
                have H := HA.out
                clear HA
                simp only [hystart_Sample.j2] at H
                by_cases c46 : x63_32 = true
                · subst c46
                  have H1 : (some (x103000_13, x103001_13, x103002_13, ji31, t107, a0_5, x103006_13)) = some (r1, r2, r3, r4, r5, r6, r7) := by rw [if_pos rfl] at H; exact H
                  clear H
                  have H := H1
                  clear H1
                  simp only [Option.some.injEq, Prod.mk.injEq] at H
                  obtain ⟨rfl, rfl, rfl, rfl, rfl, rfl, rfl⟩ := H
                  have hnb47 := NB102_103.out
                  have hnc47 := NB103_102.out
                  have hcz48_0 : wc.cell? ⟨gb102, 0, none⟩ = some (.int .i64 x103000_13) := (blk_cell BK102.out 0).trans rfl
                  have hcz48_1 : wc.cell? ⟨gb102, 1, none⟩ = some (.int .u64 x103001_13) := (blk_cell BK102.out 1).trans rfl
                  have hcz48_2 : wc.cell? ⟨gb102, 2, none⟩ = some (.int .u64 x103002_13) := (blk_cell BK102.out 2).trans rfl
                  have hcz48_3 : wc.cell? ⟨gb102, 3, none⟩ = some (.int .u64 ji31) := (blk_cell BK102.out 3).trans rfl
                  have hcz48_4 : wc.cell? ⟨gb102, 4, none⟩ = some (.int .u64 t107) := (blk_cell BK102.out 4).trans rfl
                  have hcz48_5 : wc.cell? ⟨gb102, 5, none⟩ = some (.int .u64 a0_5) := (blk_cell BK102.out 5).trans rfl
                  have hcz48_6 : wc.cell? ⟨gb102, 6, none⟩ = some (.int .u64 x103006_13) := (blk_cell BK102.out 6).trans rfl
                  have hfz48_0 := blk_frozen BK102.out 0
                  have hfz48_1 := blk_frozen BK102.out 1
                  have hfz48_2 := blk_frozen BK102.out 2
                  have hfz48_3 := blk_frozen BK102.out 3
                  have hfz48_4 := blk_frozen BK102.out 4
                  have hfz48_5 := blk_frozen BK102.out 5
                  have hfz48_6 := blk_frozen BK102.out 6
                  have hcz49_0 : wc.cell? ⟨gb103, 0, none⟩ = some (.int .i64 0) := (blk_cell BK103.out 0).trans rfl
                  have hcz49_1 : wc.cell? ⟨gb103, 1, none⟩ = some (.int .u64 0) := (blk_cell BK103.out 1).trans rfl
                  have hcz49_2 : wc.cell? ⟨gb103, 2, none⟩ = some (.int .u64 0) := (blk_cell BK103.out 2).trans rfl
                  have hcz49_3 : wc.cell? ⟨gb103, 3, none⟩ = some (.int .u64 0) := (blk_cell BK103.out 3).trans rfl
                  have hcz49_4 : wc.cell? ⟨gb103, 4, none⟩ = some (.int .u64 0) := (blk_cell BK103.out 4).trans rfl
                  have hcz49_5 : wc.cell? ⟨gb103, 5, none⟩ = some (.int .u64 0) := (blk_cell BK103.out 5).trans rfl
                  have hcz49_6 : wc.cell? ⟨gb103, 6, none⟩ = some (.int .u64 0) := (blk_cell BK103.out 6).trans rfl
                  have hfz49_0 := blk_frozen BK103.out 0
                  have hfz49_1 := blk_frozen BK103.out 1
                  have hfz49_2 := blk_frozen BK103.out 2
                  have hfz49_3 := blk_frozen BK103.out 3
                  have hfz49_4 := blk_frozen BK103.out 4
                  have hfz49_5 := blk_frozen BK103.out 5
                  have hfz49_6 := blk_frozen BK103.out 6
                  go_wp2
                  refine bodyPost_ret (results_cell_row rfl _ _ gb103 25 #[.int .i64 x103000_13, .int .u64 x103001_13, .int .u64 x103002_13, .int .u64 ji31, .int .u64 t107, .int .u64 a0_5, .int .u64 x103006_13] (0, 0) _ rfl (by (with_reducible repeat (first | refine blk_drewN ?_ _ | refine blk_drew ?_ | refine blk_alloc ?_ _)); refine blk_put (cs := #[.int .i64 x103000_13, .int .u64 x103001_13, .int .u64 x103002_13, .int .u64 ji31, .int .u64 t107, .int .u64 a0_5, .int .u64 0]) ?_ 6 _ rfl; (with_reducible repeat (first | refine blk_drewN ?_ _ | refine blk_drew ?_ | refine blk_alloc ?_ _)); refine blk_put (cs := #[.int .i64 x103000_13, .int .u64 x103001_13, .int .u64 x103002_13, .int .u64 ji31, .int .u64 t107, .int .u64 0, .int .u64 0]) ?_ 5 _ rfl; (with_reducible repeat (first | refine blk_drewN ?_ _ | refine blk_drew ?_ | refine blk_alloc ?_ _)); refine blk_put (cs := #[.int .i64 x103000_13, .int .u64 x103001_13, .int .u64 x103002_13, .int .u64 ji31, .int .u64 0, .int .u64 0, .int .u64 0]) ?_ 4 _ rfl; (with_reducible repeat (first | refine blk_drewN ?_ _ | refine blk_drew ?_ | refine blk_alloc ?_ _)); refine blk_put (cs := #[.int .i64 x103000_13, .int .u64 x103001_13, .int .u64 x103002_13, .int .u64 0, .int .u64 0, .int .u64 0, .int .u64 0]) ?_ 3 _ rfl; (with_reducible repeat (first | refine blk_drewN ?_ _ | refine blk_drew ?_ | refine blk_alloc ?_ _)); refine blk_put (cs := #[.int .i64 x103000_13, .int .u64 x103001_13, .int .u64 0, .int .u64 0, .int .u64 0, .int .u64 0, .int .u64 0]) ?_ 2 _ rfl; (with_reducible repeat (first | refine blk_drewN ?_ _ | refine blk_drew ?_ | refine blk_alloc ?_ _)); refine blk_put (cs := #[.int .i64 x103000_13, .int .u64 0, .int .u64 0, .int .u64 0, .int .u64 0, .int .u64 0, .int .u64 0]) ?_ 1 _ rfl; (with_reducible repeat (first | refine blk_drewN ?_ _ | refine blk_drew ?_ | refine blk_alloc ?_ _)); refine blk_put (cs := #[.int .i64 0, .int .u64 0, .int .u64 0, .int .u64 0, .int .u64 0, .int .u64 0, .int .u64 0]) ?_ 0 _ rfl; (with_reducible repeat (first | refine blk_drewN ?_ _ | refine blk_drew ?_ | refine blk_alloc ?_ _)); exact BK103.out) Try.underlying25 rfl (by kernel_rfl)) rfl ?_
                  exact ⟨by first | rfl | (simp [errW_none, errW_some] <;> rfl) | (simp only [← hji31]; first | rfl | (simp [errW_none, errW_some] <;> rfl)) | (simp [*, errW_none, errW_some] <;> rfl), by repeat (first | (with_reducible first | exact HB.out | apply below_alloc | apply pw_below_drewN | apply below_drew1 | refine below_set ?_ GE102.out | refine below_set ?_ GE103.out) | exact HB.out)⟩
                · replace c46 := Bool.eq_false_iff.mpr c46
                  subst c46
                  have H1 : (if x103000_13 = 0 then ((fix_Add.f x103002_13 (mn (mx (IntKind.u64.wrap (Int.tdiv x103002_13 8)) 4) 16)).bind fun t108 => (hystart_Sample.j3 kj32 (decide (ji31 ≥ t108)) x103000_13 x103001_13 x103002_13 ji31 t107 a0_5 x103006_13)) else (hystart_Sample.j3 kj32 false x103000_13 x103001_13 x103002_13 ji31 t107 a0_5 x103006_13)) = some (r1, r2, r3, r4, r5, r6, r7) := by rw [if_neg (show ¬ (false = true) by decide)] at H; exact H
                  clear H
                  have H := H1
                  clear H1
                  obtain ⟨ji50, hji50⟩ : ∃ j_ : Int, (mx (IntKind.u64.wrap (Int.tdiv x103002_13 8)) 4) = j_ := ⟨_, rfl⟩
                  replace H : (if x103000_13 = 0 then ((fix_Add.f x103002_13 (mn (ji50) 16)).bind fun t108 => (hystart_Sample.j3 kj32 (decide (ji31 ≥ t108)) x103000_13 x103001_13 x103002_13 ji31 t107 a0_5 x103006_13)) else (hystart_Sample.j3 kj32 false x103000_13 x103001_13 x103002_13 ji31 t107 a0_5 x103006_13)) = some (r1, r2, r3, r4, r5, r6, r7) := by first | (rw [hji50] at H; exact H) | (simp only [hji50] at H ⊢; exact H)
                  have hji50_ : (if (IntKind.u64.wrap (Int.tdiv x103002_13 8)) < 4 then 4 else (IntKind.u64.wrap (Int.tdiv x103002_13 8))) = ji50 := hji50
                  obtain ⟨ji51, hji51⟩ : ∃ j_ : Int, (mn (ji50) 16) = j_ := ⟨_, rfl⟩
                  replace H : (if x103000_13 = 0 then ((fix_Add.f x103002_13 (ji51)).bind fun t108 => (hystart_Sample.j3 kj32 (decide (ji31 ≥ t108)) x103000_13 x103001_13 x103002_13 ji31 t107 a0_5 x103006_13)) else (hystart_Sample.j3 kj32 false x103000_13 x103001_13 x103002_13 ji31 t107 a0_5 x103006_13)) = some (r1, r2, r3, r4, r5, r6, r7) := by first | (rw [hji51] at H; exact H) | (simp only [hji51] at H ⊢; exact H)
                  have hji51_ : (if 16 < (ji50) then 16 else (ji50)) = ji51 := hji51
                  have HC52 := Aside0.mk H
                  clear H
                  have hnb53 := NB102_103.out
                  have hnc53 := NB103_102.out
                  have hcz54_0 : wc.cell? ⟨gb102, 0, none⟩ = some (.int .i64 x103000_13) := (blk_cell BK102.out 0).trans rfl
                  have hcz54_1 : wc.cell? ⟨gb102, 1, none⟩ = some (.int .u64 x103001_13) := (blk_cell BK102.out 1).trans rfl
                  have hcz54_2 : wc.cell? ⟨gb102, 2, none⟩ = some (.int .u64 x103002_13) := (blk_cell BK102.out 2).trans rfl
                  have hcz54_3 : wc.cell? ⟨gb102, 3, none⟩ = some (.int .u64 ji31) := (blk_cell BK102.out 3).trans rfl
                  have hcz54_4 : wc.cell? ⟨gb102, 4, none⟩ = some (.int .u64 t107) := (blk_cell BK102.out 4).trans rfl
                  have hcz54_5 : wc.cell? ⟨gb102, 5, none⟩ = some (.int .u64 a0_5) := (blk_cell BK102.out 5).trans rfl
                  have hcz54_6 : wc.cell? ⟨gb102, 6, none⟩ = some (.int .u64 x103006_13) := (blk_cell BK102.out 6).trans rfl
                  have hfz54_0 := blk_frozen BK102.out 0
                  have hfz54_1 := blk_frozen BK102.out 1
                  have hfz54_2 := blk_frozen BK102.out 2
                  have hfz54_3 := blk_frozen BK102.out 3
                  have hfz54_4 := blk_frozen BK102.out 4
                  have hfz54_5 := blk_frozen BK102.out 5
                  have hfz54_6 := blk_frozen BK102.out 6
                  go_upto_region 14 with (fail)
                  go_cut [70] (fun v70 wc => ∃ (kq : Nat) (x70_51 : Bool), v70 = .bool x70_51 ∧ Aside0 (hystart_Sample.j3 kq x70_51 x103000_13 x103001_13 x103002_13 ji31 t107 a0_5 x103006_13 = some (r1, r2, r3, r4, r5, r6, r7)) ∧ Aside0 (kq ≤ kj32) ∧ Aside0 (wc.heap[gb102]? = some (.cells #[.int .i64 x103000_13, .int .u64 x103001_13, .int .u64 x103002_13, .int .u64 ji31, .int .u64 t107, .int .u64 a0_5, .int .u64 x103006_13] 25 (0, 0))) ∧ Aside0 (wc.heap[gb103]? = some (.cells #[.int .i64 0, .int .u64 0, .int .u64 0, .int .u64 0, .int .u64 0, .int .u64 0, .int .u64 0] 25 (0, 0))) ∧ Aside0 (Below w.heap.size w wc))
                  case first =>
                    have H := HC52.out
                    clear HC52
                    by_cases c55 : x103000_13 = 0
                    · rw [if_pos c55] at H
                      have c55b0 : (x103000_13 == 0) = true := beq_iff_eq.mpr c55
                      have c55b1 : (x103000_13 != 0) = false := bne_eq_false_iff_eq.mpr c55
                      clear c55
                      (first | rw [c55b0] | (simp only [i64_w, i32_w]; rw [c55b0]) | skip)
                      replace H := Option.bind_eq_some_iff.mp H
                      obtain ⟨t108, A560, H⟩ := H
                      replace H : (hystart_Sample.j3 kj32 (decide (ji31 ≥ t108)) x103000_13 x103001_13 x103002_13 ji31 t107 a0_5 x103006_13) = some (r1, r2, r3, r4, r5, r6, r7) := H
                      have A56 := Aside0.mk A560
                      clear A560
                      have H' := Aside0.mk H
                      clear H
                      try go_wp2
                      have n0_ := Aside0.mk (blk_drew BK102.out)
                      have n1_ := Aside0.mk (blk_drew BK103.out)
                      have n2_ := Aside0.mk (below_drew1 HB.out)
                      clear BK102
                      clear BK103
                      clear HB
                      have BK102 := n0_
                      have BK103 := n1_
                      have HB := n2_
                      clear n0_ n1_ n2_
                      refine start_ (n := 13) (S := fun w' => w'.cell? ⟨gb102, 0, none⟩ = some (.int .i64 x103000_13) ∧ w'.cell? ⟨gb102, 1, none⟩ = some (.int .u64 x103001_13) ∧ w'.cell? ⟨gb102, 2, none⟩ = some (.int .u64 x103002_13) ∧ w'.cell? ⟨gb102, 3, none⟩ = some (.int .u64 ji31) ∧ w'.cell? ⟨gb102, 4, none⟩ = some (.int .u64 t107) ∧ w'.cell? ⟨gb102, 5, none⟩ = some (.int .u64 a0_5) ∧ w'.cell? ⟨gb102, 6, none⟩ = some (.int .u64 x103006_13)) (ds := []) #[false, false, false, false, false, false, false, false, false, false, false, false, false] (by kernel_rfl) rfl rfl ⟨(blk_cell BK102.out 0).trans rfl, (blk_cell BK102.out 1).trans rfl, (blk_cell BK102.out 2).trans rfl, (blk_cell BK102.out 3).trans rfl, (blk_cell BK102.out 4).trans rfl, (blk_cell BK102.out 5).trans rfl, (blk_cell BK102.out 6).trans rfl⟩ (fun hHeld => ?_); refine with_tabW hystart_Sample.tab14 hystart_Sample.bits14 (fun HT_ HW_ => ?_)
                      generalize wc.drew = w57 at BK102 BK103 HB hHeld ⊢
                      refine pure_ (i := 0) (N := some 71) (v := ?_) (a' := ?_) #[true, false, false, false, false, false, false, false, false, false, false, false, false] rfl rfl (any_of HT_.out (by kernel_rfl)) (fun _ _ _ h => h) (Or.inl ⟨by rfl, ?_⟩) ?_ ?_
                      rotate_left
                      · intro w'
                        go_simp
                        with_reducible rfl
                      rotate_left
                      · simp only [Act.put, List.setIfInBounds_toArray, List.set_cons_zero, List.set_cons_succ, i64_w, i32_w]
                        rfl
                      refine take_ (i := 1) (N := some 72) (v := ?_) (a' := ?_) #[true, true, false, false, false, false, false, false, false, false, false, false, false] rfl rfl (take_ofW HT_.out HW_.out (by kernel_rfl)) (fun _ _ _ h => h) (Or.inl ⟨by rfl, ?_⟩) hHeld ?_ ?_
                      rotate_left
                      · rintro w' ⟨s0, s1, s2, s3, s4, s5, s6⟩
                        go_simp
                        with_reducible rfl
                      rotate_left
                      · simp only [Act.put, List.setIfInBounds_toArray, List.set_cons_zero, List.set_cons_succ, i64_w, i32_w]
                        rfl
                      refine pure_ (i := 2) (N := some 73) (v := ?_) (a' := ?_) #[true, true, true, false, false, false, false, false, false, false, false, false, false] rfl rfl (any_of HT_.out (by kernel_rfl)) (fun _ _ _ h => h) (Or.inl ⟨by rfl, ?_⟩) ?_ ?_
                      rotate_left
                      · intro w'
                        go_simp
                        with_reducible rfl
                      rotate_left
                      · simp only [Act.put, List.setIfInBounds_toArray, List.set_cons_zero, List.set_cons_succ, i64_w, i32_w]
                        rfl
                      refine pure_ (i := 3) (N := some 74) (v := ?_) (a' := ?_) #[true, true, true, true, false, false, false, false, false, false, false, false, false] rfl rfl (any_of HT_.out (by kernel_rfl)) (fun _ _ _ h => h) (Or.inl ⟨by rfl, ?_⟩) ?_ ?_
                      rotate_left
                      · intro w'
                        go_simp
                        with_reducible rfl
                      rotate_left
                      · simp only [Act.put, List.setIfInBounds_toArray, List.set_cons_zero, List.set_cons_succ, i64_w, i32_w]
                        rfl
                      refine pure_ (i := 4) (N := some 75) (v := ?_) (a' := ?_) #[true, true, true, true, true, false, false, false, false, false, false, false, false] rfl rfl (any_of HT_.out (by kernel_rfl)) (fun _ _ _ h => h) (Or.inl ⟨by rfl, ?_⟩) ?_ ?_
                      rotate_left
                      · intro w'
                        go_simp
                        with_reducible rfl
                      rotate_left
                      · simp only [Act.put, List.setIfInBounds_toArray, List.set_cons_zero, List.set_cons_succ, i64_w, i32_w]
                        rfl
                      refine pure_ (i := 6) (N := some 77) (v := ?_) (a' := ?_) #[true, true, true, true, true, false, true, false, false, false, false, false, false] rfl rfl (any_of HT_.out (by kernel_rfl)) (fun _ _ _ h => h) (Or.inl ⟨by rfl, ?_⟩) ?_ ?_
                      rotate_left
                      · intro w'
                        go_simp
                        with_reducible rfl
                      rotate_left
                      · simp only [Act.put, List.setIfInBounds_toArray, List.set_cons_zero, List.set_cons_succ, i64_w, i32_w]
                        rfl
                      refine pure_ (i := 8) (N := some 79) (v := ?_) (a' := ?_) #[true, true, true, true, true, false, true, false, true, false, false, false, false] rfl rfl (any_of HT_.out (by kernel_rfl)) (fun _ _ _ h => h) (Or.inl ⟨by rfl, ?_⟩) ?_ ?_
                      rotate_left
                      · intro w'
                        go_simp
                        with_reducible rfl
                      rotate_left
                      · simp only [Act.put, List.setIfInBounds_toArray, List.set_cons_zero, List.set_cons_succ, i64_w, i32_w]
                        rfl
                      refine take_ (i := 5) (N := some 76) (v := ?_) (a' := ?_) #[true, true, true, true, true, true, true, false, true, false, false, false, false] rfl rfl (take_ofW HT_.out HW_.out (by kernel_rfl)) (fun _ _ _ h => h) (Or.inl ⟨by rfl, ?_⟩) hHeld ?_ ?_
                      rotate_left
                      · rintro w' ⟨s0, s1, s2, s3, s4, s5, s6⟩
                        go_simp
                        with_reducible rfl
                      rotate_left
                      · simp only [Act.put, List.setIfInBounds_toArray, List.set_cons_zero, List.set_cons_succ, i64_w, i32_w]
                        rfl
                      refine take_ (i := 7) (N := some 78) (v := ?_) (a' := ?_) #[true, true, true, true, true, true, true, true, true, false, false, false, false] rfl rfl (take_ofW HT_.out HW_.out (by kernel_rfl)) (fun _ _ _ h => h) (Or.inl ⟨by rfl, ?_⟩) hHeld ?_ ?_
                      rotate_left
                      · rintro w' ⟨s0, s1, s2, s3, s4, s5, s6⟩
                        go_simp
                        with_reducible rfl
                      rotate_left
                      · simp only [Act.put, List.setIfInBounds_toArray, List.set_cons_zero, List.set_cons_succ, i64_w, i32_w]
                        rfl
                      refine one_ (i := 9) (N := some 80) #[true, true, true, true, true, true, true, true, true, true, false, false, false] rfl rfl (one_of HT_.out (by kernel_rfl)) (by decide) (fun K hK => ?_)
                      refine goes_ Try.func19 (by kernel_rfl) rfl #[.int .u64 x103002_13, .int .u64 ji51] (by rfl) rfl rfl (by (try simp only [List.map_toArray, List.map_cons, List.map_nil]); first | done | (simp only [hji51]; rfl) | rfl | (simp only [List.length_drop, List.length_take]; rfl)) ?_
                      with_reducible refine (fix_Add.calls x103002_13 ji51 t108 _ A56.out).mono ?_
                      rintro e w' ⟨rfl, ⟨nd, rfl⟩⟩
                      refine ⟨_, rfl, ?_⟩
                      refine hK.out _ _ ⟨(blk_cell BK102.out 0).trans rfl, (blk_cell BK102.out 1).trans rfl, (blk_cell BK102.out 2).trans rfl, (blk_cell BK102.out 3).trans rfl, (blk_cell BK102.out 4).trans rfl, (blk_cell BK102.out 5).trans rfl, (blk_cell BK102.out 6).trans rfl⟩ (fun hHeld => ?_)
                      clear hK K
                      refine norm_ (a' := ?_) ?_ ?_
                      rotate_left
                      · show Act.put _ (some 80) _ = _
                        simp only [Act.put, List.setIfInBounds_toArray, List.set_cons_zero, List.set_cons_succ, i64_w, i32_w]
                        rfl
                      refine pure_ (i := 10) (N := some 81) (v := ?_) (a' := ?_) #[true, true, true, true, true, true, true, true, true, true, true, false, false] rfl rfl (any_of HT_.out (by kernel_rfl)) (fun _ _ _ h => h) (Or.inl ⟨by rfl, ?_⟩) ?_ ?_
                      rotate_left
                      · intro w'
                        go_simp
                        with_reducible rfl
                      rotate_left
                      · simp only [Act.put, List.setIfInBounds_toArray, List.set_cons_zero, List.set_cons_succ, i64_w, i32_w]
                        rfl
                      refine pure_ (i := 11) (N := some 82) (v := ?_) (a' := ?_) #[true, true, true, true, true, true, true, true, true, true, true, true, false] rfl rfl (any_of HT_.out (by kernel_rfl)) (fun _ _ _ h => h) (Or.inl ⟨by rfl, ?_⟩) ?_ ?_
                      rotate_left
                      · intro w'
                        go_simp
                        with_reducible rfl
                      rotate_left
                      · simp only [Act.put, List.setIfInBounds_toArray, List.set_cons_zero, List.set_cons_succ, i64_w, i32_w]
                        rfl
                      refine pure_ (i := 12) (N := some 70) (v := ?_) (a' := ?_) #[true, true, true, true, true, true, true, true, true, true, true, true, true] rfl rfl (any_of HT_.out (by kernel_rfl)) (fun _ _ _ h => h) (Or.inl ⟨by rfl, ?_⟩) ?_ ?_
                      rotate_left
                      · intro w'
                        go_simp
                        with_reducible rfl
                      rotate_left
                      · simp only [Act.put, List.setIfInBounds_toArray, List.set_cons_zero, List.set_cons_succ, i64_w, i32_w]
                        rfl
                      refine done_ (done_of HT_.out (by kernel_rfl)) ?_
                      try go_wp2
                      go_meet
                      case rel => exact ⟨_, (decide (ji31 ≥ t108)), (by first | rfl | (simp; done) | (simp only [← hji31] <;> (first | rfl | simp)) | (simp [*]; done)), H', ⟨by have := HJ4.out; have := HJ13.out; have := HJ32.out; first | omega | exact Nat.le_refl _⟩, ⟨by (with_reducible repeat (first | refine blk_drewN ?_ _ | refine blk_drew ?_ | refine blk_alloc ?_ _)); exact BK102.out⟩, ⟨by (with_reducible repeat (first | refine blk_drewN ?_ _ | refine blk_drew ?_ | refine blk_alloc ?_ _)); exact BK103.out⟩, ⟨by repeat (first | (with_reducible first | exact HB.out | apply below_alloc | apply pw_below_drewN | apply below_drew1 | refine below_set ?_ GE102.out | refine below_set ?_ GE103.out) | exact HB.out)⟩⟩
                    · rw [if_neg c55] at H
                      have c55b0 : (x103000_13 == 0) = false := beq_eq_false_iff_ne.mpr c55
                      have c55b1 : (x103000_13 != 0) = true := bne_iff_ne.mpr c55
                      (first | rw [c55b0] | (simp only [i64_w, i32_w]; rw [c55b0]) | skip)
                      have H' := Aside0.mk H
                      clear H
                      try go_wp2
                      have n0_ := Aside0.mk (blk_drew BK102.out)
                      have n1_ := Aside0.mk (blk_drew BK103.out)
                      have n2_ := Aside0.mk (below_drew1 HB.out)
                      clear BK102
                      clear BK103
                      clear HB
                      have BK102 := n0_
                      have BK103 := n1_
                      have HB := n2_
                      clear n0_ n1_ n2_
                      refine start_ (n := 13) (S := fun w' => w'.cell? ⟨gb102, 0, none⟩ = some (.int .i64 x103000_13) ∧ w'.cell? ⟨gb102, 1, none⟩ = some (.int .u64 x103001_13) ∧ w'.cell? ⟨gb102, 2, none⟩ = some (.int .u64 x103002_13) ∧ w'.cell? ⟨gb102, 3, none⟩ = some (.int .u64 ji31) ∧ w'.cell? ⟨gb102, 4, none⟩ = some (.int .u64 t107) ∧ w'.cell? ⟨gb102, 5, none⟩ = some (.int .u64 a0_5) ∧ w'.cell? ⟨gb102, 6, none⟩ = some (.int .u64 x103006_13)) (ds := []) #[false, false, false, false, false, false, false, false, false, false, false, false, false] (by kernel_rfl) rfl rfl ⟨(blk_cell BK102.out 0).trans rfl, (blk_cell BK102.out 1).trans rfl, (blk_cell BK102.out 2).trans rfl, (blk_cell BK102.out 3).trans rfl, (blk_cell BK102.out 4).trans rfl, (blk_cell BK102.out 5).trans rfl, (blk_cell BK102.out 6).trans rfl⟩ (fun hHeld => ?_); refine with_tabW hystart_Sample.tab14 hystart_Sample.bits14 (fun HT_ HW_ => ?_)
                      generalize wc.drew = w58 at BK102 BK103 HB hHeld ⊢
                      refine pure_ (i := 0) (N := some 71) (v := ?_) (a' := ?_) #[true, false, false, false, false, false, false, false, false, false, false, false, false] rfl rfl (any_of HT_.out (by kernel_rfl)) (fun _ _ _ h => h) (Or.inl ⟨by rfl, ?_⟩) ?_ ?_
                      rotate_left
                      · intro w'
                        go_simp
                        with_reducible rfl
                      rotate_left
                      · simp only [Act.put, List.setIfInBounds_toArray, List.set_cons_zero, List.set_cons_succ, i64_w, i32_w]
                        rfl
                      refine take_ (i := 1) (N := some 72) (v := ?_) (a' := ?_) #[true, true, false, false, false, false, false, false, false, false, false, false, false] rfl rfl (take_ofW HT_.out HW_.out (by kernel_rfl)) (fun _ _ _ h => h) (Or.inl ⟨by rfl, ?_⟩) hHeld ?_ ?_
                      rotate_left
                      · rintro w' ⟨s0, s1, s2, s3, s4, s5, s6⟩
                        go_simp
                        with_reducible rfl
                      rotate_left
                      · simp only [Act.put, List.setIfInBounds_toArray, List.set_cons_zero, List.set_cons_succ, i64_w, i32_w]
                        rfl
                      refine pure_ (i := 2) (N := some 73) (v := ?_) (a' := ?_) #[true, true, true, false, false, false, false, false, false, false, false, false, false] rfl rfl (any_of HT_.out (by kernel_rfl)) (fun _ _ _ h => h) (Or.inl ⟨by rfl, ?_⟩) ?_ ?_
                      rotate_left
                      · intro w'
                        go_simp
                        with_reducible rfl
                      rotate_left
                      · simp only [Act.put, List.setIfInBounds_toArray, List.set_cons_zero, List.set_cons_succ, i64_w, i32_w]
                        rfl
                      refine pure_ (i := 3) (N := some 74) (v := ?_) (a' := ?_) #[true, true, true, true, false, false, false, false, false, false, false, false, false] rfl rfl (any_of HT_.out (by kernel_rfl)) (fun _ _ _ h => h) (Or.inl ⟨by rfl, ?_⟩) ?_ ?_
                      rotate_left
                      · intro w'
                        go_simp
                        with_reducible rfl
                      rotate_left
                      · simp only [Act.put, List.setIfInBounds_toArray, List.set_cons_zero, List.set_cons_succ, i64_w, i32_w]
                        rfl
                      refine pure_ (i := 4) (N := some 75) (v := undef) (a' := ?_) #[true, true, true, true, true, false, false, false, false, false, false, false, false] rfl rfl (any_of HT_.out (by kernel_rfl)) (fun _ _ _ h => h) (Or.inr ⟨by rfl, rfl⟩) ?_ ?_
                      rotate_left
                      · simp only [Act.put, List.setIfInBounds_toArray, List.set_cons_zero, List.set_cons_succ, i64_w, i32_w]
                        rfl
                      refine pure_ (i := 5) (N := some 76) (v := undef) (a' := ?_) #[true, true, true, true, true, true, false, false, false, false, false, false, false] rfl rfl (any_of HT_.out (by kernel_rfl)) (fun _ _ _ h => h) (Or.inr ⟨by rfl, rfl⟩) ?_ ?_
                      rotate_left
                      · simp only [Act.put, List.setIfInBounds_toArray, List.set_cons_zero, List.set_cons_succ, i64_w, i32_w]
                        rfl
                      refine pure_ (i := 6) (N := some 77) (v := undef) (a' := ?_) #[true, true, true, true, true, true, true, false, false, false, false, false, false] rfl rfl (any_of HT_.out (by kernel_rfl)) (fun _ _ _ h => h) (Or.inr ⟨by rfl, rfl⟩) ?_ ?_
                      rotate_left
                      · simp only [Act.put, List.setIfInBounds_toArray, List.set_cons_zero, List.set_cons_succ, i64_w, i32_w]
                        rfl
                      refine pure_ (i := 7) (N := some 78) (v := undef) (a' := ?_) #[true, true, true, true, true, true, true, true, false, false, false, false, false] rfl rfl (any_of HT_.out (by kernel_rfl)) (fun _ _ _ h => h) (Or.inr ⟨by rfl, rfl⟩) ?_ ?_
                      rotate_left
                      · simp only [Act.put, List.setIfInBounds_toArray, List.set_cons_zero, List.set_cons_succ, i64_w, i32_w]
                        rfl
                      refine pure_ (i := 8) (N := some 79) (v := undef) (a' := ?_) #[true, true, true, true, true, true, true, true, true, false, false, false, false] rfl rfl (any_of HT_.out (by kernel_rfl)) (fun _ _ _ h => h) (Or.inr ⟨by rfl, rfl⟩) ?_ ?_
                      rotate_left
                      · simp only [Act.put, List.setIfInBounds_toArray, List.set_cons_zero, List.set_cons_succ, i64_w, i32_w]
                        rfl
                      refine pure_ (i := 9) (N := some 80) (v := undef) (a' := ?_) #[true, true, true, true, true, true, true, true, true, true, false, false, false] rfl rfl (any_of HT_.out (by kernel_rfl)) (fun _ _ _ h => h) (Or.inr ⟨by rfl, rfl⟩) ?_ ?_
                      rotate_left
                      · simp only [Act.put, List.setIfInBounds_toArray, List.set_cons_zero, List.set_cons_succ, i64_w, i32_w]
                        rfl
                      refine pure_ (i := 10) (N := some 81) (v := undef) (a' := ?_) #[true, true, true, true, true, true, true, true, true, true, true, false, false] rfl rfl (any_of HT_.out (by kernel_rfl)) (fun _ _ _ h => h) (Or.inr ⟨by rfl, rfl⟩) ?_ ?_
                      rotate_left
                      · simp only [Act.put, List.setIfInBounds_toArray, List.set_cons_zero, List.set_cons_succ, i64_w, i32_w]
                        rfl
                      refine pure_ (i := 11) (N := some 82) (v := ?_) (a' := ?_) #[true, true, true, true, true, true, true, true, true, true, true, true, false] rfl rfl (any_of HT_.out (by kernel_rfl)) (fun _ _ _ h => h) (Or.inl ⟨by rfl, ?_⟩) ?_ ?_
                      rotate_left
                      · intro w'
                        go_simp
                        with_reducible rfl
                      rotate_left
                      · simp only [Act.put, List.setIfInBounds_toArray, List.set_cons_zero, List.set_cons_succ, i64_w, i32_w]
                        rfl
                      refine pure_ (i := 12) (N := some 70) (v := ?_) (a' := ?_) #[true, true, true, true, true, true, true, true, true, true, true, true, true] rfl rfl (any_of HT_.out (by kernel_rfl)) (fun _ _ _ h => h) (Or.inl ⟨by rfl, ?_⟩) ?_ ?_
                      rotate_left
                      · intro w'
                        go_simp
                        with_reducible rfl
                      rotate_left
                      · simp only [Act.put, List.setIfInBounds_toArray, List.set_cons_zero, List.set_cons_succ, i64_w, i32_w]
                        rfl
                      refine done_ (done_of HT_.out (by kernel_rfl)) ?_
                      try go_wp2
                      go_meet
                      case rel => exact ⟨_, (false), (by first | rfl | (simp; done) | (simp [*]; done)), H', ⟨by have := HJ4.out; have := HJ13.out; have := HJ32.out; first | omega | exact Nat.le_refl _⟩, ⟨by (with_reducible repeat (first | refine blk_drewN ?_ _ | refine blk_drew ?_ | refine blk_alloc ?_ _)); exact BK102.out⟩, ⟨by (with_reducible repeat (first | refine blk_drewN ?_ _ | refine blk_drew ?_ | refine blk_alloc ?_ _)); exact BK103.out⟩, ⟨by repeat (first | (with_reducible first | exact HB.out | apply below_alloc | apply pw_below_drewN | apply below_drew1 | refine below_set ?_ GE102.out | refine below_set ?_ GE103.out) | exact HB.out)⟩⟩
                  case rest =>
                    clear HC52
                    try clear c1
                    try clear c2
                    try clear p2
                    try clear c3
                    try clear c4
                    try clear c5
                    try clear c9
                    try clear c10
                    try clear c12
                    try clear c15
                    try clear c16
                    try clear c16b0
                    try clear c16b1
                    try clear c18
                    try clear c18b0
                    try clear c18b1
                    try clear c19
                    try clear c21
                    try clear c23
                    try clear c26
                    try clear c28
                    try clear c38
                    try clear c38b0
                    try clear c39
                    try clear c41
                    try clear c41b0
                    try clear c41b1
                    try clear c42
                    try clear c44
                    try clear c46
                    try clear c47
                    try clear c53
                    try clear c55
                    try clear c55b0
                    try clear c55b1
                    try clear hcz13_0
                    try clear hcz13_1
                    try clear hcz13_2
                    try clear hcz13_3
                    try clear hcz13_4
                    try clear hcz13_5
                    try clear hcz13_6
                    try clear hcz20_0
                    try clear hcz20_1
                    try clear hcz20_2
                    try clear hcz20_3
                    try clear hcz20_4
                    try clear hcz20_5
                    try clear hcz20_6
                    try clear hcz22_0
                    try clear hcz22_1
                    try clear hcz22_2
                    try clear hcz22_3
                    try clear hcz22_4
                    try clear hcz22_5
                    try clear hcz22_6
                    try clear hcz24_0
                    try clear hcz24_1
                    try clear hcz24_2
                    try clear hcz24_3
                    try clear hcz24_4
                    try clear hcz24_5
                    try clear hcz24_6
                    try clear hcz29_0
                    try clear hcz29_1
                    try clear hcz29_2
                    try clear hcz29_3
                    try clear hcz29_4
                    try clear hcz29_5
                    try clear hcz29_6
                    try clear hcz30_0
                    try clear hcz30_1
                    try clear hcz30_2
                    try clear hcz30_3
                    try clear hcz30_4
                    try clear hcz30_5
                    try clear hcz30_6
                    try clear hcz40_0
                    try clear hcz40_1
                    try clear hcz40_2
                    try clear hcz40_3
                    try clear hcz40_4
                    try clear hcz40_5
                    try clear hcz40_6
                    try clear hcz43_0
                    try clear hcz43_1
                    try clear hcz43_2
                    try clear hcz43_3
                    try clear hcz43_4
                    try clear hcz43_5
                    try clear hcz43_6
                    try clear hcz45_0
                    try clear hcz45_1
                    try clear hcz45_2
                    try clear hcz45_3
                    try clear hcz45_4
                    try clear hcz45_5
                    try clear hcz45_6
                    try clear hcz48_0
                    try clear hcz48_1
                    try clear hcz48_2
                    try clear hcz48_3
                    try clear hcz48_4
                    try clear hcz48_5
                    try clear hcz48_6
                    try clear hcz49_0
                    try clear hcz49_1
                    try clear hcz49_2
                    try clear hcz49_3
                    try clear hcz49_4
                    try clear hcz49_5
                    try clear hcz49_6
                    try clear hcz54_0
                    try clear hcz54_1
                    try clear hcz54_2
                    try clear hcz54_3
                    try clear hcz54_4
                    try clear hcz54_5
                    try clear hcz54_6
                    try clear hfz13_0
                    try clear hfz13_1
                    try clear hfz13_2
                    try clear hfz13_3
                    try clear hfz13_4
                    try clear hfz13_5
                    try clear hfz13_6
                    try clear hfz20_0
                    try clear hfz20_1
                    try clear hfz20_2
                    try clear hfz20_3
                    try clear hfz20_4
                    try clear hfz20_5
                    try clear hfz20_6
                    try clear hfz22_0
                    try clear hfz22_1
                    try clear hfz22_2
                    try clear hfz22_3
                    try clear hfz22_4
                    try clear hfz22_5
                    try clear hfz22_6
                    try clear hfz24_0
                    try clear hfz24_1
                    try clear hfz24_2
                    try clear hfz24_3
                    try clear hfz24_4
                    try clear hfz24_5
                    try clear hfz24_6
                    try clear hfz29_0
                    try clear hfz29_1
                    try clear hfz29_2
                    try clear hfz29_3
                    try clear hfz29_4
                    try clear hfz29_5
                    try clear hfz29_6
                    try clear hfz30_0
                    try clear hfz30_1
                    try clear hfz30_2
                    try clear hfz30_3
                    try clear hfz30_4
                    try clear hfz30_5
                    try clear hfz30_6
                    try clear hfz40_0
                    try clear hfz40_1
                    try clear hfz40_2
                    try clear hfz40_3
                    try clear hfz40_4
                    try clear hfz40_5
                    try clear hfz40_6
                    try clear hfz43_0
                    try clear hfz43_1
                    try clear hfz43_2
                    try clear hfz43_3
                    try clear hfz43_4
                    try clear hfz43_5
                    try clear hfz43_6
                    try clear hfz45_0
                    try clear hfz45_1
                    try clear hfz45_2
                    try clear hfz45_3
                    try clear hfz45_4
                    try clear hfz45_5
                    try clear hfz45_6
                    try clear hfz48_0
                    try clear hfz48_1
                    try clear hfz48_2
                    try clear hfz48_3
                    try clear hfz48_4
                    try clear hfz48_5
                    try clear hfz48_6
                    try clear hfz49_0
                    try clear hfz49_1
                    try clear hfz49_2
                    try clear hfz49_3
                    try clear hfz49_4
                    try clear hfz49_5
                    try clear hfz49_6
                    try clear hfz54_0
                    try clear hfz54_1
                    try clear hfz54_2
                    try clear hfz54_3
                    try clear hfz54_4
                    try clear hfz54_5
                    try clear hfz54_6
                    try clear p2
                    obtain ⟨kq, x70_51, rfl, HA, HJ51, BK102, BK103, HB⟩ := hcut
                    cases kq with
                    | zero => exact absurd HA.out (by simp [hystart_Sample.j3])
                    | succ kj51 =>
                      have H := HA.out
                      clear HA
                      simp only [hystart_Sample.j3] at H
                      by_cases c59 : x70_51 = true
                      · subst c59
                        have H1 : (some (1, x103001_13, x103002_13, ji31, t107, ji31, 0)) = some (r1, r2, r3, r4, r5, r6, r7) := by rw [if_pos rfl] at H; exact H
                        clear H
                        have H := H1
                        clear H1
                        simp only [Option.some.injEq, Prod.mk.injEq] at H
                        obtain ⟨rfl, rfl, rfl, rfl, rfl, rfl, rfl⟩ := H
                        have hnb60 := NB102_103.out
                        have hnc60 := NB103_102.out
                        have hcz61_0 : wc.cell? ⟨gb102, 0, none⟩ = some (.int .i64 x103000_13) := (blk_cell BK102.out 0).trans rfl
                        have hcz61_1 : wc.cell? ⟨gb102, 1, none⟩ = some (.int .u64 x103001_13) := (blk_cell BK102.out 1).trans rfl
                        have hcz61_2 : wc.cell? ⟨gb102, 2, none⟩ = some (.int .u64 x103002_13) := (blk_cell BK102.out 2).trans rfl
                        have hcz61_3 : wc.cell? ⟨gb102, 3, none⟩ = some (.int .u64 ji31) := (blk_cell BK102.out 3).trans rfl
                        have hcz61_4 : wc.cell? ⟨gb102, 4, none⟩ = some (.int .u64 t107) := (blk_cell BK102.out 4).trans rfl
                        have hcz61_5 : wc.cell? ⟨gb102, 5, none⟩ = some (.int .u64 a0_5) := (blk_cell BK102.out 5).trans rfl
                        have hcz61_6 : wc.cell? ⟨gb102, 6, none⟩ = some (.int .u64 x103006_13) := (blk_cell BK102.out 6).trans rfl
                        have hfz61_0 := blk_frozen BK102.out 0
                        have hfz61_1 := blk_frozen BK102.out 1
                        have hfz61_2 := blk_frozen BK102.out 2
                        have hfz61_3 := blk_frozen BK102.out 3
                        have hfz61_4 := blk_frozen BK102.out 4
                        have hfz61_5 := blk_frozen BK102.out 5
                        have hfz61_6 := blk_frozen BK102.out 6
                        have hcz62_0 : wc.cell? ⟨gb103, 0, none⟩ = some (.int .i64 0) := (blk_cell BK103.out 0).trans rfl
                        have hcz62_1 : wc.cell? ⟨gb103, 1, none⟩ = some (.int .u64 0) := (blk_cell BK103.out 1).trans rfl
                        have hcz62_2 : wc.cell? ⟨gb103, 2, none⟩ = some (.int .u64 0) := (blk_cell BK103.out 2).trans rfl
                        have hcz62_3 : wc.cell? ⟨gb103, 3, none⟩ = some (.int .u64 0) := (blk_cell BK103.out 3).trans rfl
                        have hcz62_4 : wc.cell? ⟨gb103, 4, none⟩ = some (.int .u64 0) := (blk_cell BK103.out 4).trans rfl
                        have hcz62_5 : wc.cell? ⟨gb103, 5, none⟩ = some (.int .u64 0) := (blk_cell BK103.out 5).trans rfl
                        have hcz62_6 : wc.cell? ⟨gb103, 6, none⟩ = some (.int .u64 0) := (blk_cell BK103.out 6).trans rfl
                        have hfz62_0 := blk_frozen BK103.out 0
                        have hfz62_1 := blk_frozen BK103.out 1
                        have hfz62_2 := blk_frozen BK103.out 2
                        have hfz62_3 := blk_frozen BK103.out 3
                        have hfz62_4 := blk_frozen BK103.out 4
                        have hfz62_5 := blk_frozen BK103.out 5
                        have hfz62_6 := blk_frozen BK103.out 6
                        go_wp2
                        refine bodyPost_ret (results_cell_row rfl _ _ gb103 25 #[.int .i64 1, .int .u64 x103001_13, .int .u64 x103002_13, .int .u64 ji31, .int .u64 t107, .int .u64 ji31, .int .u64 0] (0, 0) _ rfl (by (with_reducible repeat (first | refine blk_drewN ?_ _ | refine blk_drew ?_ | refine blk_alloc ?_ _)); refine blk_put (cs := #[.int .i64 1, .int .u64 x103001_13, .int .u64 x103002_13, .int .u64 ji31, .int .u64 t107, .int .u64 ji31, .int .u64 0]) ?_ 6 _ rfl; (with_reducible repeat (first | refine blk_drewN ?_ _ | refine blk_drew ?_ | refine blk_alloc ?_ _)); refine blk_put (cs := #[.int .i64 1, .int .u64 x103001_13, .int .u64 x103002_13, .int .u64 ji31, .int .u64 t107, .int .u64 0, .int .u64 0]) ?_ 5 _ rfl; (with_reducible repeat (first | refine blk_drewN ?_ _ | refine blk_drew ?_ | refine blk_alloc ?_ _)); refine blk_put (cs := #[.int .i64 1, .int .u64 x103001_13, .int .u64 x103002_13, .int .u64 ji31, .int .u64 0, .int .u64 0, .int .u64 0]) ?_ 4 _ rfl; (with_reducible repeat (first | refine blk_drewN ?_ _ | refine blk_drew ?_ | refine blk_alloc ?_ _)); refine blk_put (cs := #[.int .i64 1, .int .u64 x103001_13, .int .u64 x103002_13, .int .u64 0, .int .u64 0, .int .u64 0, .int .u64 0]) ?_ 3 _ rfl; (with_reducible repeat (first | refine blk_drewN ?_ _ | refine blk_drew ?_ | refine blk_alloc ?_ _)); refine blk_put (cs := #[.int .i64 1, .int .u64 x103001_13, .int .u64 0, .int .u64 0, .int .u64 0, .int .u64 0, .int .u64 0]) ?_ 2 _ rfl; (with_reducible repeat (first | refine blk_drewN ?_ _ | refine blk_drew ?_ | refine blk_alloc ?_ _)); refine blk_put (cs := #[.int .i64 1, .int .u64 0, .int .u64 0, .int .u64 0, .int .u64 0, .int .u64 0, .int .u64 0]) ?_ 1 _ rfl; (with_reducible repeat (first | refine blk_drewN ?_ _ | refine blk_drew ?_ | refine blk_alloc ?_ _)); refine blk_put (cs := #[.int .i64 0, .int .u64 0, .int .u64 0, .int .u64 0, .int .u64 0, .int .u64 0, .int .u64 0]) ?_ 0 _ rfl; (with_reducible repeat (first | refine blk_drewN ?_ _ | refine blk_drew ?_ | refine blk_alloc ?_ _)); refine blk_far ?_ NB103_102.out _; (with_reducible repeat (first | refine blk_drewN ?_ _ | refine blk_drew ?_ | refine blk_alloc ?_ _)); refine blk_far ?_ NB103_102.out _; (with_reducible repeat (first | refine blk_drewN ?_ _ | refine blk_drew ?_ | refine blk_alloc ?_ _)); refine blk_far ?_ NB103_102.out _; (with_reducible repeat (first | refine blk_drewN ?_ _ | refine blk_drew ?_ | refine blk_alloc ?_ _)); exact BK103.out) Try.underlying25 rfl (by kernel_rfl)) rfl ?_
                        exact ⟨by first | rfl | (simp [errW_none, errW_some] <;> rfl) | (simp only [← hji31, ← hji50, ← hji51]; first | rfl | (simp [errW_none, errW_some] <;> rfl)) | (simp [*, errW_none, errW_some] <;> rfl), by repeat (first | (with_reducible first | exact HB.out | apply below_alloc | apply pw_below_drewN | apply below_drew1 | refine below_set ?_ GE102.out | refine below_set ?_ GE103.out) | exact HB.out)⟩
                      · replace c59 := Bool.eq_false_iff.mpr c59
                        subst c59
                        have H1 : (if x103000_13 = 1 then (if ji31 < a0_5 then (some (0, x103001_13, x103002_13, ji31, t107, 18446744073709551615, x103006_13)) else (some (x103000_13, x103001_13, x103002_13, ji31, t107, a0_5, x103006_13))) else (some (x103000_13, x103001_13, x103002_13, ji31, t107, a0_5, x103006_13))) = some (r1, r2, r3, r4, r5, r6, r7) := by rw [if_neg (show ¬ (false = true) by decide)] at H; exact H
                        clear H
                        have H := H1
                        clear H1
                        by_cases c63 : x103000_13 = 1
                        · rw [if_pos c63] at H
                          have c63b0 : (x103000_13 == 1) = true := beq_iff_eq.mpr c63
                          have c63b1 : (x103000_13 != 1) = false := bne_eq_false_iff_eq.mpr c63
                          clear c63
                          by_cases c64 : ji31 < a0_5
                          · rw [if_pos c64] at H
                            have c64b0 : decide (ji31 < a0_5) = true := decide_eq_true c64
                            clear c64
                            simp only [Option.some.injEq, Prod.mk.injEq] at H
                            obtain ⟨rfl, rfl, rfl, rfl, rfl, rfl, rfl⟩ := H
                            have hnb65 := NB102_103.out
                            have hnc65 := NB103_102.out
                            have hcz66_0 : wc.cell? ⟨gb102, 0, none⟩ = some (.int .i64 x103000_13) := (blk_cell BK102.out 0).trans rfl
                            have hcz66_1 : wc.cell? ⟨gb102, 1, none⟩ = some (.int .u64 x103001_13) := (blk_cell BK102.out 1).trans rfl
                            have hcz66_2 : wc.cell? ⟨gb102, 2, none⟩ = some (.int .u64 x103002_13) := (blk_cell BK102.out 2).trans rfl
                            have hcz66_3 : wc.cell? ⟨gb102, 3, none⟩ = some (.int .u64 ji31) := (blk_cell BK102.out 3).trans rfl
                            have hcz66_4 : wc.cell? ⟨gb102, 4, none⟩ = some (.int .u64 t107) := (blk_cell BK102.out 4).trans rfl
                            have hcz66_5 : wc.cell? ⟨gb102, 5, none⟩ = some (.int .u64 a0_5) := (blk_cell BK102.out 5).trans rfl
                            have hcz66_6 : wc.cell? ⟨gb102, 6, none⟩ = some (.int .u64 x103006_13) := (blk_cell BK102.out 6).trans rfl
                            have hfz66_0 := blk_frozen BK102.out 0
                            have hfz66_1 := blk_frozen BK102.out 1
                            have hfz66_2 := blk_frozen BK102.out 2
                            have hfz66_3 := blk_frozen BK102.out 3
                            have hfz66_4 := blk_frozen BK102.out 4
                            have hfz66_5 := blk_frozen BK102.out 5
                            have hfz66_6 := blk_frozen BK102.out 6
                            have hcz67_0 : wc.cell? ⟨gb103, 0, none⟩ = some (.int .i64 0) := (blk_cell BK103.out 0).trans rfl
                            have hcz67_1 : wc.cell? ⟨gb103, 1, none⟩ = some (.int .u64 0) := (blk_cell BK103.out 1).trans rfl
                            have hcz67_2 : wc.cell? ⟨gb103, 2, none⟩ = some (.int .u64 0) := (blk_cell BK103.out 2).trans rfl
                            have hcz67_3 : wc.cell? ⟨gb103, 3, none⟩ = some (.int .u64 0) := (blk_cell BK103.out 3).trans rfl
                            have hcz67_4 : wc.cell? ⟨gb103, 4, none⟩ = some (.int .u64 0) := (blk_cell BK103.out 4).trans rfl
                            have hcz67_5 : wc.cell? ⟨gb103, 5, none⟩ = some (.int .u64 0) := (blk_cell BK103.out 5).trans rfl
                            have hcz67_6 : wc.cell? ⟨gb103, 6, none⟩ = some (.int .u64 0) := (blk_cell BK103.out 6).trans rfl
                            have hfz67_0 := blk_frozen BK103.out 0
                            have hfz67_1 := blk_frozen BK103.out 1
                            have hfz67_2 := blk_frozen BK103.out 2
                            have hfz67_3 := blk_frozen BK103.out 3
                            have hfz67_4 := blk_frozen BK103.out 4
                            have hfz67_5 := blk_frozen BK103.out 5
                            have hfz67_6 := blk_frozen BK103.out 6
                            go_wp2
                            refine bodyPost_ret (results_cell_row rfl _ _ gb103 25 #[.int .i64 0, .int .u64 x103001_13, .int .u64 x103002_13, .int .u64 ji31, .int .u64 t107, .int .u64 18446744073709551615, .int .u64 x103006_13] (0, 0) _ rfl (by (with_reducible repeat (first | refine blk_drewN ?_ _ | refine blk_drew ?_ | refine blk_alloc ?_ _)); refine blk_put (cs := #[.int .i64 0, .int .u64 x103001_13, .int .u64 x103002_13, .int .u64 ji31, .int .u64 t107, .int .u64 18446744073709551615, .int .u64 0]) ?_ 6 _ rfl; (with_reducible repeat (first | refine blk_drewN ?_ _ | refine blk_drew ?_ | refine blk_alloc ?_ _)); refine blk_put (cs := #[.int .i64 0, .int .u64 x103001_13, .int .u64 x103002_13, .int .u64 ji31, .int .u64 t107, .int .u64 0, .int .u64 0]) ?_ 5 _ rfl; (with_reducible repeat (first | refine blk_drewN ?_ _ | refine blk_drew ?_ | refine blk_alloc ?_ _)); refine blk_put (cs := #[.int .i64 0, .int .u64 x103001_13, .int .u64 x103002_13, .int .u64 ji31, .int .u64 0, .int .u64 0, .int .u64 0]) ?_ 4 _ rfl; (with_reducible repeat (first | refine blk_drewN ?_ _ | refine blk_drew ?_ | refine blk_alloc ?_ _)); refine blk_put (cs := #[.int .i64 0, .int .u64 x103001_13, .int .u64 x103002_13, .int .u64 0, .int .u64 0, .int .u64 0, .int .u64 0]) ?_ 3 _ rfl; (with_reducible repeat (first | refine blk_drewN ?_ _ | refine blk_drew ?_ | refine blk_alloc ?_ _)); refine blk_put (cs := #[.int .i64 0, .int .u64 x103001_13, .int .u64 0, .int .u64 0, .int .u64 0, .int .u64 0, .int .u64 0]) ?_ 2 _ rfl; (with_reducible repeat (first | refine blk_drewN ?_ _ | refine blk_drew ?_ | refine blk_alloc ?_ _)); refine blk_put (cs := #[.int .i64 0, .int .u64 0, .int .u64 0, .int .u64 0, .int .u64 0, .int .u64 0, .int .u64 0]) ?_ 1 _ rfl; (with_reducible repeat (first | refine blk_drewN ?_ _ | refine blk_drew ?_ | refine blk_alloc ?_ _)); refine blk_put (cs := #[.int .i64 0, .int .u64 0, .int .u64 0, .int .u64 0, .int .u64 0, .int .u64 0, .int .u64 0]) ?_ 0 _ rfl; (with_reducible repeat (first | refine blk_drewN ?_ _ | refine blk_drew ?_ | refine blk_alloc ?_ _)); refine blk_far ?_ NB103_102.out _; (with_reducible repeat (first | refine blk_drewN ?_ _ | refine blk_drew ?_ | refine blk_alloc ?_ _)); refine blk_far ?_ NB103_102.out _; (with_reducible repeat (first | refine blk_drewN ?_ _ | refine blk_drew ?_ | refine blk_alloc ?_ _)); exact BK103.out) Try.underlying25 rfl (by kernel_rfl)) rfl ?_
                            exact ⟨by first | rfl | (simp [errW_none, errW_some] <;> rfl) | (simp only [← hji31, ← hji50, ← hji51]; first | rfl | (simp [errW_none, errW_some] <;> rfl)) | (simp [*, errW_none, errW_some] <;> rfl), by repeat (first | (with_reducible first | exact HB.out | apply below_alloc | apply pw_below_drewN | apply below_drew1 | refine below_set ?_ GE102.out | refine below_set ?_ GE103.out) | exact HB.out)⟩
                          · rw [if_neg c64] at H
                            have c64b0 : decide (ji31 < a0_5) = false := decide_eq_false c64
                            clear c64
                            simp only [Option.some.injEq, Prod.mk.injEq] at H
                            obtain ⟨rfl, rfl, rfl, rfl, rfl, rfl, rfl⟩ := H
                            have hnb68 := NB102_103.out
                            have hnc68 := NB103_102.out
                            have hcz69_0 : wc.cell? ⟨gb102, 0, none⟩ = some (.int .i64 x103000_13) := (blk_cell BK102.out 0).trans rfl
                            have hcz69_1 : wc.cell? ⟨gb102, 1, none⟩ = some (.int .u64 x103001_13) := (blk_cell BK102.out 1).trans rfl
                            have hcz69_2 : wc.cell? ⟨gb102, 2, none⟩ = some (.int .u64 x103002_13) := (blk_cell BK102.out 2).trans rfl
                            have hcz69_3 : wc.cell? ⟨gb102, 3, none⟩ = some (.int .u64 ji31) := (blk_cell BK102.out 3).trans rfl
                            have hcz69_4 : wc.cell? ⟨gb102, 4, none⟩ = some (.int .u64 t107) := (blk_cell BK102.out 4).trans rfl
                            have hcz69_5 : wc.cell? ⟨gb102, 5, none⟩ = some (.int .u64 a0_5) := (blk_cell BK102.out 5).trans rfl
                            have hcz69_6 : wc.cell? ⟨gb102, 6, none⟩ = some (.int .u64 x103006_13) := (blk_cell BK102.out 6).trans rfl
                            have hfz69_0 := blk_frozen BK102.out 0
                            have hfz69_1 := blk_frozen BK102.out 1
                            have hfz69_2 := blk_frozen BK102.out 2
                            have hfz69_3 := blk_frozen BK102.out 3
                            have hfz69_4 := blk_frozen BK102.out 4
                            have hfz69_5 := blk_frozen BK102.out 5
                            have hfz69_6 := blk_frozen BK102.out 6
                            have hcz70_0 : wc.cell? ⟨gb103, 0, none⟩ = some (.int .i64 0) := (blk_cell BK103.out 0).trans rfl
                            have hcz70_1 : wc.cell? ⟨gb103, 1, none⟩ = some (.int .u64 0) := (blk_cell BK103.out 1).trans rfl
                            have hcz70_2 : wc.cell? ⟨gb103, 2, none⟩ = some (.int .u64 0) := (blk_cell BK103.out 2).trans rfl
                            have hcz70_3 : wc.cell? ⟨gb103, 3, none⟩ = some (.int .u64 0) := (blk_cell BK103.out 3).trans rfl
                            have hcz70_4 : wc.cell? ⟨gb103, 4, none⟩ = some (.int .u64 0) := (blk_cell BK103.out 4).trans rfl
                            have hcz70_5 : wc.cell? ⟨gb103, 5, none⟩ = some (.int .u64 0) := (blk_cell BK103.out 5).trans rfl
                            have hcz70_6 : wc.cell? ⟨gb103, 6, none⟩ = some (.int .u64 0) := (blk_cell BK103.out 6).trans rfl
                            have hfz70_0 := blk_frozen BK103.out 0
                            have hfz70_1 := blk_frozen BK103.out 1
                            have hfz70_2 := blk_frozen BK103.out 2
                            have hfz70_3 := blk_frozen BK103.out 3
                            have hfz70_4 := blk_frozen BK103.out 4
                            have hfz70_5 := blk_frozen BK103.out 5
                            have hfz70_6 := blk_frozen BK103.out 6
                            go_wp2
                            refine bodyPost_ret (results_cell_row rfl _ _ gb103 25 #[.int .i64 x103000_13, .int .u64 x103001_13, .int .u64 x103002_13, .int .u64 ji31, .int .u64 t107, .int .u64 a0_5, .int .u64 x103006_13] (0, 0) _ rfl (by (with_reducible repeat (first | refine blk_drewN ?_ _ | refine blk_drew ?_ | refine blk_alloc ?_ _)); refine blk_put (cs := #[.int .i64 x103000_13, .int .u64 x103001_13, .int .u64 x103002_13, .int .u64 ji31, .int .u64 t107, .int .u64 a0_5, .int .u64 0]) ?_ 6 _ rfl; (with_reducible repeat (first | refine blk_drewN ?_ _ | refine blk_drew ?_ | refine blk_alloc ?_ _)); refine blk_put (cs := #[.int .i64 x103000_13, .int .u64 x103001_13, .int .u64 x103002_13, .int .u64 ji31, .int .u64 t107, .int .u64 0, .int .u64 0]) ?_ 5 _ rfl; (with_reducible repeat (first | refine blk_drewN ?_ _ | refine blk_drew ?_ | refine blk_alloc ?_ _)); refine blk_put (cs := #[.int .i64 x103000_13, .int .u64 x103001_13, .int .u64 x103002_13, .int .u64 ji31, .int .u64 0, .int .u64 0, .int .u64 0]) ?_ 4 _ rfl; (with_reducible repeat (first | refine blk_drewN ?_ _ | refine blk_drew ?_ | refine blk_alloc ?_ _)); refine blk_put (cs := #[.int .i64 x103000_13, .int .u64 x103001_13, .int .u64 x103002_13, .int .u64 0, .int .u64 0, .int .u64 0, .int .u64 0]) ?_ 3 _ rfl; (with_reducible repeat (first | refine blk_drewN ?_ _ | refine blk_drew ?_ | refine blk_alloc ?_ _)); refine blk_put (cs := #[.int .i64 x103000_13, .int .u64 x103001_13, .int .u64 0, .int .u64 0, .int .u64 0, .int .u64 0, .int .u64 0]) ?_ 2 _ rfl; (with_reducible repeat (first | refine blk_drewN ?_ _ | refine blk_drew ?_ | refine blk_alloc ?_ _)); refine blk_put (cs := #[.int .i64 x103000_13, .int .u64 0, .int .u64 0, .int .u64 0, .int .u64 0, .int .u64 0, .int .u64 0]) ?_ 1 _ rfl; (with_reducible repeat (first | refine blk_drewN ?_ _ | refine blk_drew ?_ | refine blk_alloc ?_ _)); refine blk_put (cs := #[.int .i64 0, .int .u64 0, .int .u64 0, .int .u64 0, .int .u64 0, .int .u64 0, .int .u64 0]) ?_ 0 _ rfl; (with_reducible repeat (first | refine blk_drewN ?_ _ | refine blk_drew ?_ | refine blk_alloc ?_ _)); exact BK103.out) Try.underlying25 rfl (by kernel_rfl)) rfl ?_
                            exact ⟨by first | rfl | (simp [errW_none, errW_some] <;> rfl) | (simp only [← hji31, ← hji50, ← hji51]; first | rfl | (simp [errW_none, errW_some] <;> rfl)) | (simp [*, errW_none, errW_some] <;> rfl), by repeat (first | (with_reducible first | exact HB.out | apply below_alloc | apply pw_below_drewN | apply below_drew1 | refine below_set ?_ GE102.out | refine below_set ?_ GE103.out) | exact HB.out)⟩
                        · rw [if_neg c63] at H
                          have c63b0 : (x103000_13 == 1) = false := beq_eq_false_iff_ne.mpr c63
                          have c63b1 : (x103000_13 != 1) = true := bne_iff_ne.mpr c63
                          simp only [Option.some.injEq, Prod.mk.injEq] at H
                          obtain ⟨rfl, rfl, rfl, rfl, rfl, rfl, rfl⟩ := H
                          have hnb71 := NB102_103.out
                          have hnc71 := NB103_102.out
                          have hcz72_0 : wc.cell? ⟨gb102, 0, none⟩ = some (.int .i64 x103000_13) := (blk_cell BK102.out 0).trans rfl
                          have hcz72_1 : wc.cell? ⟨gb102, 1, none⟩ = some (.int .u64 x103001_13) := (blk_cell BK102.out 1).trans rfl
                          have hcz72_2 : wc.cell? ⟨gb102, 2, none⟩ = some (.int .u64 x103002_13) := (blk_cell BK102.out 2).trans rfl
                          have hcz72_3 : wc.cell? ⟨gb102, 3, none⟩ = some (.int .u64 ji31) := (blk_cell BK102.out 3).trans rfl
                          have hcz72_4 : wc.cell? ⟨gb102, 4, none⟩ = some (.int .u64 t107) := (blk_cell BK102.out 4).trans rfl
                          have hcz72_5 : wc.cell? ⟨gb102, 5, none⟩ = some (.int .u64 a0_5) := (blk_cell BK102.out 5).trans rfl
                          have hcz72_6 : wc.cell? ⟨gb102, 6, none⟩ = some (.int .u64 x103006_13) := (blk_cell BK102.out 6).trans rfl
                          have hfz72_0 := blk_frozen BK102.out 0
                          have hfz72_1 := blk_frozen BK102.out 1
                          have hfz72_2 := blk_frozen BK102.out 2
                          have hfz72_3 := blk_frozen BK102.out 3
                          have hfz72_4 := blk_frozen BK102.out 4
                          have hfz72_5 := blk_frozen BK102.out 5
                          have hfz72_6 := blk_frozen BK102.out 6
                          have hcz73_0 : wc.cell? ⟨gb103, 0, none⟩ = some (.int .i64 0) := (blk_cell BK103.out 0).trans rfl
                          have hcz73_1 : wc.cell? ⟨gb103, 1, none⟩ = some (.int .u64 0) := (blk_cell BK103.out 1).trans rfl
                          have hcz73_2 : wc.cell? ⟨gb103, 2, none⟩ = some (.int .u64 0) := (blk_cell BK103.out 2).trans rfl
                          have hcz73_3 : wc.cell? ⟨gb103, 3, none⟩ = some (.int .u64 0) := (blk_cell BK103.out 3).trans rfl
                          have hcz73_4 : wc.cell? ⟨gb103, 4, none⟩ = some (.int .u64 0) := (blk_cell BK103.out 4).trans rfl
                          have hcz73_5 : wc.cell? ⟨gb103, 5, none⟩ = some (.int .u64 0) := (blk_cell BK103.out 5).trans rfl
                          have hcz73_6 : wc.cell? ⟨gb103, 6, none⟩ = some (.int .u64 0) := (blk_cell BK103.out 6).trans rfl
                          have hfz73_0 := blk_frozen BK103.out 0
                          have hfz73_1 := blk_frozen BK103.out 1
                          have hfz73_2 := blk_frozen BK103.out 2
                          have hfz73_3 := blk_frozen BK103.out 3
                          have hfz73_4 := blk_frozen BK103.out 4
                          have hfz73_5 := blk_frozen BK103.out 5
                          have hfz73_6 := blk_frozen BK103.out 6
                          go_wp2
                          refine bodyPost_ret (results_cell_row rfl _ _ gb103 25 #[.int .i64 x103000_13, .int .u64 x103001_13, .int .u64 x103002_13, .int .u64 ji31, .int .u64 t107, .int .u64 a0_5, .int .u64 x103006_13] (0, 0) _ rfl (by (with_reducible repeat (first | refine blk_drewN ?_ _ | refine blk_drew ?_ | refine blk_alloc ?_ _)); refine blk_put (cs := #[.int .i64 x103000_13, .int .u64 x103001_13, .int .u64 x103002_13, .int .u64 ji31, .int .u64 t107, .int .u64 a0_5, .int .u64 0]) ?_ 6 _ rfl; (with_reducible repeat (first | refine blk_drewN ?_ _ | refine blk_drew ?_ | refine blk_alloc ?_ _)); refine blk_put (cs := #[.int .i64 x103000_13, .int .u64 x103001_13, .int .u64 x103002_13, .int .u64 ji31, .int .u64 t107, .int .u64 0, .int .u64 0]) ?_ 5 _ rfl; (with_reducible repeat (first | refine blk_drewN ?_ _ | refine blk_drew ?_ | refine blk_alloc ?_ _)); refine blk_put (cs := #[.int .i64 x103000_13, .int .u64 x103001_13, .int .u64 x103002_13, .int .u64 ji31, .int .u64 0, .int .u64 0, .int .u64 0]) ?_ 4 _ rfl; (with_reducible repeat (first | refine blk_drewN ?_ _ | refine blk_drew ?_ | refine blk_alloc ?_ _)); refine blk_put (cs := #[.int .i64 x103000_13, .int .u64 x103001_13, .int .u64 x103002_13, .int .u64 0, .int .u64 0, .int .u64 0, .int .u64 0]) ?_ 3 _ rfl; (with_reducible repeat (first | refine blk_drewN ?_ _ | refine blk_drew ?_ | refine blk_alloc ?_ _)); refine blk_put (cs := #[.int .i64 x103000_13, .int .u64 x103001_13, .int .u64 0, .int .u64 0, .int .u64 0, .int .u64 0, .int .u64 0]) ?_ 2 _ rfl; (with_reducible repeat (first | refine blk_drewN ?_ _ | refine blk_drew ?_ | refine blk_alloc ?_ _)); refine blk_put (cs := #[.int .i64 x103000_13, .int .u64 0, .int .u64 0, .int .u64 0, .int .u64 0, .int .u64 0, .int .u64 0]) ?_ 1 _ rfl; (with_reducible repeat (first | refine blk_drewN ?_ _ | refine blk_drew ?_ | refine blk_alloc ?_ _)); refine blk_put (cs := #[.int .i64 0, .int .u64 0, .int .u64 0, .int .u64 0, .int .u64 0, .int .u64 0, .int .u64 0]) ?_ 0 _ rfl; (with_reducible repeat (first | refine blk_drewN ?_ _ | refine blk_drew ?_ | refine blk_alloc ?_ _)); exact BK103.out) Try.underlying25 rfl (by kernel_rfl)) rfl ?_
                          exact ⟨by first | rfl | (simp [errW_none, errW_some] <;> rfl) | (simp only [← hji31, ← hji50, ← hji51]; first | rfl | (simp [errW_none, errW_some] <;> rfl)) | (simp [*, errW_none, errW_some] <;> rfl), by repeat (first | (with_reducible first | exact HB.out | apply below_alloc | apply pw_below_drewN | apply below_drew1 | refine below_set ?_ GE102.out | refine below_set ?_ GE103.out) | exact HB.out)⟩

end Go.Proofs.Ythclohjlbajclaa.P
