-- Printed for this claim by xprint.py of this session: contracts of this session's own stand in for what the print does not take
import Derived.Test.YthclohjlbajclaaPx0
import Derived.Test.YthclohjlbajclaaPx3
import Derived.Test.YthclohjlbajclaaPx4
import Derived.Test.YthclohjlbajclaaPx5
namespace Go.Proofs.Ythclohjlbajclaa.P
open Go.RowKit Go.Proofs.YthclohjlbajclaaW.PrintWords Go.Proofs.YthclohjlbajclaaW.PrintLast Go.Proofs.YthclohjlbajclaaW.PrintMore
attribute [local go_sem] max2_int min2_int max_two min_two max_three min_three max_four min_four   -- for this text's walks alone
set_option linter.unusedVariables false
set_option linter.unusedSimpArgs false

/-! ### wigwaglaw11_HystartSteady: function 8 -/
mutual
def wigwaglaw11_HystartSteady.j0 : Nat → Int → Int → List Int → Bool → Bool → Option (Bool)
  | 0, _, _, _, _, _ => none
  | k + 1, x0, x1, x2, x7, x17 => if x17 = true then (some x7) else ((hystart_New.f x0).bind fun bt197 => (wigwaglaw11_HystartSteady.l0 k x1 x2 x7 x0 0 bt197.1 bt197.2.1 bt197.2.2.1 bt197.2.2.2.1 bt197.2.2.2.2.1 bt197.2.2.2.2.2.1 bt197.2.2.2.2.2.2))
def wigwaglaw11_HystartSteady.l0 : Nat → Int → List Int → Bool → Int → Int → Int → Int → Int → Int → Int → Int → Int → Option (Bool)
  | 0, _, _, _, _, _, _, _, _, _, _, _, _ => none
  | k + 1, x1, x2, x7, x9, x10, x205000, x205001, x205002, x205003, x205004, x205005, x205006 => if x10 < (x2.length : Int) then (wigwaglaw11_HystartSteady.j2 k x1 x2 x7 x9 x10 (decide (x10 < 200)) x205000 x205001 x205002 x205003 x205004 x205005 x205006) else (wigwaglaw11_HystartSteady.j2 k x1 x2 x7 x9 x10 false x205000 x205001 x205002 x205003 x205004 x205005 x205006)
def wigwaglaw11_HystartSteady.j2 : Nat → Int → List Int → Bool → Int → Int → Bool → Int → Int → Int → Int → Int → Int → Int → Option (Bool)
  | 0, _, _, _, _, _, _, _, _, _, _, _, _, _ => none
  | k + 1, x1, x2, x7, x9, x10, x29, x205000, x205001, x205002, x205003, x205004, x205005, x205006 => if x29 = true then (if 0 ≤ x10 then (if x10 < (x2.length : Int) then ((hystart_Sample.f k x205000 x205001 x205002 x205003 x205004 x205005 x205006 (IntKind.u64.wrap (x9 + (Int.tmod (IntKind.u64.wrap (rd x2 x10)) 3))) (IntKind.u64.wrap ((IntKind.u64.wrap (x9 + (Int.tmod (IntKind.u64.wrap (rd x2 x10)) 3))) + (Int.tmod (IntKind.u64.wrap (rd x2 x10)) 9))) x1).bind fun bt207 => (if bt207.1 = 0 then (if bt207.2.2.2.1 = x1 then (wigwaglaw11_HystartSteady.l0 k x1 x2 x7 (IntKind.u64.wrap (x9 + (Int.tmod (IntKind.u64.wrap (rd x2 x10)) 3))) (wrap64 (x10 + 1)) bt207.1 bt207.2.1 bt207.2.2.1 bt207.2.2.2.1 bt207.2.2.2.2.1 bt207.2.2.2.2.2.1 bt207.2.2.2.2.2.2) else (some false)) else (some false))) else (none)) else (none)) else (some x7)
end
def wigwaglaw11_HystartSteady.f (k : Nat) (a0 : Int) (a1 : Int) (l2 : List Int) : Option (Bool) := (wigwaglaw11_awake.f k).bind fun t196 => (if a0 > 4611686018427387904 then (wigwaglaw11_HystartSteady.j0 k a0 a1 l2 t196 true) else (wigwaglaw11_HystartSteady.j0 k a0 a1 l2 t196 (a1 == 18446744073709551615)))
theorem wigwaglaw11_HystartSteady.mono_l : ∀ k, (∀ y0 y1 y2 y3 y4, LeO (wigwaglaw11_HystartSteady.j0 k y0 y1 y2 y3 y4) (wigwaglaw11_HystartSteady.j0 (k + 1) y0 y1 y2 y3 y4)) ∧ (∀ y0 y1 y2 y3 y4 y5 y6 y7 y8 y9 y10 y11, LeO (wigwaglaw11_HystartSteady.l0 k y0 y1 y2 y3 y4 y5 y6 y7 y8 y9 y10 y11) (wigwaglaw11_HystartSteady.l0 (k + 1) y0 y1 y2 y3 y4 y5 y6 y7 y8 y9 y10 y11)) ∧ (∀ y0 y1 y2 y3 y4 y5 y6 y7 y8 y9 y10 y11 y12, LeO (wigwaglaw11_HystartSteady.j2 k y0 y1 y2 y3 y4 y5 y6 y7 y8 y9 y10 y11 y12) (wigwaglaw11_HystartSteady.j2 (k + 1) y0 y1 y2 y3 y4 y5 y6 y7 y8 y9 y10 y11 y12))
  | 0 => ⟨fun _ _ _ _ _ r h => by simp [wigwaglaw11_HystartSteady.j0] at h, fun _ _ _ _ _ _ _ _ _ _ _ _ r h => by simp [wigwaglaw11_HystartSteady.l0] at h, fun _ _ _ _ _ _ _ _ _ _ _ _ _ r h => by simp [wigwaglaw11_HystartSteady.j2] at h⟩
  | k + 1 => by
    obtain ⟨ih0, ih1, ih2⟩ := wigwaglaw11_HystartSteady.mono_l k
    refine ⟨?_, ?_, ?_⟩
    · intro y0 y1 y2 y3 y4
      unfold wigwaglaw11_HystartSteady.j0
      repeat' first
      | (with_reducible exact ih0 _ _ _ _ _)
      | (with_reducible exact ih1 _ _ _ _ _ _ _ _ _ _ _ _)
      | (with_reducible exact ih2 _ _ _ _ _ _ _ _ _ _ _ _ _)
      | (with_reducible exact hystart_Sample.mono _ _ _ _ _ _ _ _ _ _ _)
      | (with_reducible exact wigwaglaw11_awake.mono _)
      | (with_reducible exact LeO.refl _)
      | (with_reducible exact LeO.none _)
      | (with_reducible refine LeO.ite ?_ ?_)
      | (with_reducible refine LeO.bind ?_ (fun _ => ?_))
      | exact ih0 _ _ _ _ _
      | exact ih1 _ _ _ _ _ _ _ _ _ _ _ _
      | exact ih2 _ _ _ _ _ _ _ _ _ _ _ _ _
      | exact hystart_Sample.mono _ _ _ _ _ _ _ _ _ _ _
      | exact wigwaglaw11_awake.mono _
      | exact LeO.none _
      | refine LeO.ite ?_ ?_
      | refine LeO.bind ?_ (fun _ => ?_)
    · intro y0 y1 y2 y3 y4 y5 y6 y7 y8 y9 y10 y11
      unfold wigwaglaw11_HystartSteady.l0
      repeat' first
      | (with_reducible exact ih0 _ _ _ _ _)
      | (with_reducible exact ih1 _ _ _ _ _ _ _ _ _ _ _ _)
      | (with_reducible exact ih2 _ _ _ _ _ _ _ _ _ _ _ _ _)
      | (with_reducible exact hystart_Sample.mono _ _ _ _ _ _ _ _ _ _ _)
      | (with_reducible exact wigwaglaw11_awake.mono _)
      | (with_reducible exact LeO.refl _)
      | (with_reducible exact LeO.none _)
      | (with_reducible refine LeO.ite ?_ ?_)
      | (with_reducible refine LeO.bind ?_ (fun _ => ?_))
      | exact ih0 _ _ _ _ _
      | exact ih1 _ _ _ _ _ _ _ _ _ _ _ _
      | exact ih2 _ _ _ _ _ _ _ _ _ _ _ _ _
      | exact hystart_Sample.mono _ _ _ _ _ _ _ _ _ _ _
      | exact wigwaglaw11_awake.mono _
      | exact LeO.none _
      | refine LeO.ite ?_ ?_
      | refine LeO.bind ?_ (fun _ => ?_)
    · intro y0 y1 y2 y3 y4 y5 y6 y7 y8 y9 y10 y11 y12
      unfold wigwaglaw11_HystartSteady.j2
      repeat' first
      | (with_reducible exact ih0 _ _ _ _ _)
      | (with_reducible exact ih1 _ _ _ _ _ _ _ _ _ _ _ _)
      | (with_reducible exact ih2 _ _ _ _ _ _ _ _ _ _ _ _ _)
      | (with_reducible exact hystart_Sample.mono _ _ _ _ _ _ _ _ _ _ _)
      | (with_reducible exact wigwaglaw11_awake.mono _)
      | (with_reducible exact LeO.refl _)
      | (with_reducible exact LeO.none _)
      | (with_reducible refine LeO.ite ?_ ?_)
      | (with_reducible refine LeO.bind ?_ (fun _ => ?_))
      | exact ih0 _ _ _ _ _
      | exact ih1 _ _ _ _ _ _ _ _ _ _ _ _
      | exact ih2 _ _ _ _ _ _ _ _ _ _ _ _ _
      | exact hystart_Sample.mono _ _ _ _ _ _ _ _ _ _ _
      | exact wigwaglaw11_awake.mono _
      | exact LeO.none _
      | refine LeO.ite ?_ ?_
      | refine LeO.bind ?_ (fun _ => ?_)
theorem wigwaglaw11_HystartSteady.mono : ∀ a0 a1 a2 k, LeO (wigwaglaw11_HystartSteady.f k a0 a1 a2) (wigwaglaw11_HystartSteady.f (k + 1) a0 a1 a2) := by
  intro a0 a1 a2 k
  obtain ⟨ih0, ih1, ih2⟩ := wigwaglaw11_HystartSteady.mono_l k
  unfold wigwaglaw11_HystartSteady.f
  repeat' first
      | (with_reducible exact ih0 _ _ _ _ _)
      | (with_reducible exact ih1 _ _ _ _ _ _ _ _ _ _ _ _)
      | (with_reducible exact ih2 _ _ _ _ _ _ _ _ _ _ _ _ _)
      | (with_reducible exact hystart_Sample.mono _ _ _ _ _ _ _ _ _ _ _)
      | (with_reducible exact wigwaglaw11_awake.mono _)
      | (with_reducible exact LeO.refl _)
      | (with_reducible exact LeO.none _)
      | (with_reducible refine LeO.ite ?_ ?_)
      | (with_reducible refine LeO.bind ?_ (fun _ => ?_))
      | exact ih0 _ _ _ _ _
      | exact ih1 _ _ _ _ _ _ _ _ _ _ _ _
      | exact ih2 _ _ _ _ _ _ _ _ _ _ _ _ _
      | exact hystart_Sample.mono _ _ _ _ _ _ _ _ _ _ _
      | exact wigwaglaw11_awake.mono _
      | exact LeO.none _
      | refine LeO.ite ?_ ?_
      | refine LeO.bind ?_ (fun _ => ?_)
def wigwaglaw11_HystartSteady.T10 : Bool × List (List Nat × List Nat) := (true, [([], []), ([], []), ([], []), ([], []), ([], []), ([3, 4], [3, 4]), ([5], [5]), ([6], [6]), ([7], [7]), ([2, 8], [2, 8]), ([], []), ([0, 1, 9, 10], [0, 1, 9, 10]), ([11, 11, 0, 1, 2, 3, 4, 5, 6, 7, 8, 9, 10, 11], [11])])
def wigwaglaw11_HystartSteady.B10 : List Nat := [0, 0, 0, 0, 0, 24, 56, 120, 248, 508, 0, 2047, 4095]
theorem wigwaglaw11_HystartSteady.tab10 : rtab .any (opsOf Try.f8 10) = wigwaglaw11_HystartSteady.T10 := by kernel_rfl
theorem wigwaglaw11_HystartSteady.bits10 : waitsOk wigwaglaw11_HystartSteady.T10.2 wigwaglaw11_HystartSteady.B10 = true := by kernel_rfl
set_option maxHeartbeats 8000000 in
set_option maxRecDepth 100000 in
theorem wigwaglaw11_HystartSteady.calls (k : Nat) (a0 : Int) (a1 : Int) (A2 : Option Addr) (c2 : Nat) (l2 : List Int) (r : Bool) (w : World) (hr2 : Kd.C (Kd.int .u8) w A2 l2.length l2) (hc2 : l2.length ≤ c2) (h : wigwaglaw11_HystartSteady.f k a0 a1 l2 = some r) :
    Calls Try.prog 8 #[.int .u64 a0, .int .u64 a1, .slice A2 l2.length c2] w fun e w' => e = .returned (.bool r) ∧ Below w.heap.size w w' := by
  have hu25 := Try.underlying25
  have HR2 := Aside0.mk hr2
  have HC2 := Aside0.mk hc2
  clear hr2 hc2
  have HB := Aside0.mk (Below.refl w.heap.size w)
  have H : ((wigwaglaw11_awake.f k).bind fun t196 => (if a0 > 4611686018427387904 then (wigwaglaw11_HystartSteady.j0 k a0 a1 l2 t196 true) else (wigwaglaw11_HystartSteady.j0 k a0 a1 l2 t196 (a1 == 18446744073709551615)))) = some r := h
  clear h
  replace H := Option.bind_eq_some_iff.mp H
  obtain ⟨t196, A40, H⟩ := H
  replace H : (if a0 > 4611686018427387904 then (wigwaglaw11_HystartSteady.j0 k a0 a1 l2 t196 true) else (wigwaglaw11_HystartSteady.j0 k a0 a1 l2 t196 (a1 == 18446744073709551615))) = some r := H
  have A4 := Aside0.mk A40
  clear A40
  have HC5 := Aside0.mk H
  clear H
  go_enter Try.func8, Try.ntmps8
  go_upto_region 2 with (first | ((with_reducible refine gate_callee (f := 9) rfl ?_); refine goesL_ (some 11) rfl rfl Try.func9 (by kernel_rfl) rfl #[] rfl (by (try simp only [List.map_toArray, List.map_cons, List.map_nil]); first | done | rfl | (simp only [List.length_drop, List.length_take]; rfl)) ?_; (with_reducible refine (wigwaglaw11_awake.calls k  t196 _ A4.out).mono ?_); rintro e w6 ⟨rfl, hb⟩; refine ⟨_, rfl, ?_⟩; have n0_ := Aside0.mk (below_step (by repeat (first | (with_reducible first | exact HB.out | apply below_alloc | apply pw_below_drewN | apply below_drew1) | exact HB.out)) hb); clear HB; have HB := n0_; clear n0_; (try clear hb); (try clear hb2); (try clear hk); (try clear hi)))
  (try simp only [Act.put, List.setIfInBounds_toArray, List.set_cons_zero, List.set_cons_succ])
  go_cut [17] (fun v17 wc => ∃ (kq : Nat) (x17_4 : Bool), v17 = .bool x17_4 ∧ Aside0 (wigwaglaw11_HystartSteady.j0 kq a0 a1 l2 t196 x17_4 = some r) ∧ Aside0 (kq ≤ k) ∧ Aside0 (Below w.heap.size w wc))
  case first =>
    have H := HC5.out
    clear HC5
    by_cases c7 : a0 > 4611686018427387904
    · rw [if_pos c7] at H
      have c7b0 : decide (4611686018427387904 < a0) = true := decide_eq_true c7
      clear c7
      (first | rw [c7b0] | (simp only [i64_w, i32_w]; rw [c7b0]) | skip)
      have H' := Aside0.mk H
      clear H
      go_wp2
      go_meet
      case rel => exact ⟨_, (true), (by first | rfl | (simp; done) | (simp [*]; done)), H', ⟨by first | omega | exact Nat.le_refl _⟩, ⟨by repeat (first | (with_reducible first | exact HB.out | apply below_alloc | apply pw_below_drewN | apply below_drew1) | exact HB.out)⟩⟩
    · rw [if_neg c7] at H
      have c7b0 : decide (4611686018427387904 < a0) = false := decide_eq_false c7
      clear c7
      (first | rw [c7b0] | (simp only [i64_w, i32_w]; rw [c7b0]) | skip)
      have H' := Aside0.mk H
      clear H
      go_wp2
      go_meet
      case rel => exact ⟨_, ((a1 == 18446744073709551615)), (by first | rfl | (simp; done) | (simp [*]; done)), H', ⟨by first | omega | exact Nat.le_refl _⟩, ⟨by repeat (first | (with_reducible first | exact HB.out | apply below_alloc | apply pw_below_drewN | apply below_drew1) | exact HB.out)⟩⟩
  case rest =>
    clear HC5
    try clear c2
    try clear p2
    try clear c7
    try clear c7b0
    obtain ⟨kq, x17_4, rfl, HA, HJ4, HB⟩ := hcut
    cases kq with
    | zero => exact absurd HA.out (by simp [wigwaglaw11_HystartSteady.j0])
    | succ kj4 =>
      have H := HA.out
      clear HA
      simp only [wigwaglaw11_HystartSteady.j0] at H
      by_cases c8 : x17_4 = true
      · subst c8
        have H1 : (some t196) = some r := by rw [if_pos rfl] at H; exact H
        clear H
        have H := H1
        clear H1
        obtain rfl := Option.some.inj H
        go_wp2
        go_ret
        exact ⟨by first | rfl | (simp [errW_none, errW_some] <;> rfl) | (simp [*, errW_none, errW_some] <;> rfl), by repeat (first | (with_reducible first | exact HB.out | apply below_alloc | apply pw_below_drewN | apply below_drew1) | exact HB.out)⟩
      · replace c8 := Bool.eq_false_iff.mpr c8
        subst c8
        have H1 : ((hystart_New.f a0).bind fun bt197 => (wigwaglaw11_HystartSteady.l0 kj4 a1 l2 t196 a0 0 bt197.1 bt197.2.1 bt197.2.2.1 bt197.2.2.2.1 bt197.2.2.2.2.1 bt197.2.2.2.2.2.1 bt197.2.2.2.2.2.2)) = some r := by rw [if_neg (show ¬ (false = true) by decide)] at H; exact H
        clear H
        have H := H1
        clear H1
        replace H := Option.bind_eq_some_iff.mp H
        obtain ⟨⟨t197, t198, t199, t200, t201, t202, t203⟩, A90, H⟩ := H
        replace H : (wigwaglaw11_HystartSteady.l0 kj4 a1 l2 t196 a0 0 t197 t198 t199 t200 t201 t202 t203) = some r := H
        have A9 := Aside0.mk A90
        clear A90
        have H' := Aside0.mk H
        clear H
        go_wp2_with (first | ((with_reducible refine gate_callee (f := 14) rfl ?_); refine goesL_ (some 20) rfl rfl Try.func14 (by kernel_rfl) rfl #[.int .u64 a0] rfl (by (try simp only [List.map_toArray, List.map_cons, List.map_nil]); first | done | rfl | (simp only [List.length_drop, List.length_take]; rfl)) ?_; (with_reducible refine (hystart_New.calls a0 t197 t198 t199 t200 t201 t202 t203 _ A9.out).mono ?_); rintro e w10 ⟨rfl, hb⟩; refine ⟨_, rfl, ?_⟩; have n0_ := Aside0.mk (below_step (by repeat (first | (with_reducible first | exact HB.out | apply below_alloc | apply pw_below_drewN | apply below_drew1) | exact HB.out)) hb); clear HB; have HB := n0_; clear n0_; (try clear hb); (try clear hb2); (try clear hk); (try clear hi)) | ((with_reducible refine gate_dst (N := 8) rfl ?_); refine box_event ?hg (N := 8) ?hd (cs := #[.int .i64 0, .int .u64 0, .int .u64 0, .int .u64 0, .int .u64 0, .int .u64 0, .int .u64 0]) (t := 25) ?hr ?_; (case hd => rfl); (case hg => rfl); (case hr => first | (go_simp; done) | (go_simp; rfl)); intro gb204 hg w11 hbox hb; have n0_ := Aside0.mk (below_step (by repeat (first | (with_reducible first | exact HB.out | apply below_alloc | apply pw_below_drewN | apply below_drew1) | exact HB.out)) hb); have n1_ := Aside0.mk (hbox); have n2_ := Aside0.mk ((by rw [hg]; exact (below_size (by repeat (first | (with_reducible first | exact HB.out | apply below_alloc | apply pw_below_drewN | apply below_drew1) | exact HB.out))) : w.heap.size ≤ gb204)); have n3_ := Aside0.mk ((by rw [hg]; exact (below_size (by repeat (first | (with_reducible first | exact HB.out | apply below_alloc | apply pw_below_drewN | apply below_drew1) | exact HB.out))) : w.heap.size ≤ gb204)); clear HB; have HB := n0_; have BK204 := n1_; have GW204 := n2_; have GE204 := n3_; clear n0_ n1_ n2_ n3_; clear hb hbox hg; have hcz12_0 : w11.cell? ⟨gb204, 0, none⟩ = some (.int .i64 0) := (blk_cell BK204.out 0).trans rfl; have hcz12_1 : w11.cell? ⟨gb204, 1, none⟩ = some (.int .u64 0) := (blk_cell BK204.out 1).trans rfl; have hcz12_2 : w11.cell? ⟨gb204, 2, none⟩ = some (.int .u64 0) := (blk_cell BK204.out 2).trans rfl; have hcz12_3 : w11.cell? ⟨gb204, 3, none⟩ = some (.int .u64 0) := (blk_cell BK204.out 3).trans rfl; have hcz12_4 : w11.cell? ⟨gb204, 4, none⟩ = some (.int .u64 0) := (blk_cell BK204.out 4).trans rfl; have hcz12_5 : w11.cell? ⟨gb204, 5, none⟩ = some (.int .u64 0) := (blk_cell BK204.out 5).trans rfl; have hcz12_6 : w11.cell? ⟨gb204, 6, none⟩ = some (.int .u64 0) := (blk_cell BK204.out 6).trans rfl; have hfz12_0 := blk_frozen BK204.out 0; have hfz12_1 := blk_frozen BK204.out 1; have hfz12_2 := blk_frozen BK204.out 2; have hfz12_3 := blk_frozen BK204.out 3; have hfz12_4 := blk_frozen BK204.out 4; have hfz12_5 := blk_frozen BK204.out 5; have hfz12_6 := blk_frozen BK204.out 6))
        go_loopg [9, 10] kj4 (fun kq v9 v10 w' => ∃ (x9_2 : Int) (x10_2 : Int) (x205000_2 : Int) (x205001_2 : Int) (x205002_2 : Int) (x205003_2 : Int) (x205004_2 : Int) (x205005_2 : Int) (x205006_2 : Int), v9 = .int .u64 x9_2 ∧ v10 = .int .i64 x10_2 ∧ Aside0 (wigwaglaw11_HystartSteady.l0 kq a1 l2 t196 x9_2 x10_2 x205000_2 x205001_2 x205002_2 x205003_2 x205004_2 x205005_2 x205006_2 = some r) ∧ Aside0 (kq ≤ kj4) ∧ Aside0 (w'.heap[gb204]? = some (.cells #[.int .i64 x205000_2, .int .u64 x205001_2, .int .u64 x205002_2, .int .u64 x205003_2, .int .u64 x205004_2, .int .u64 x205005_2, .int .u64 x205006_2] 25 (0, 0))) ∧ Aside0 (Below w.heap.size w w'))
        case atStart => exact ⟨(a0), (0), (t197), (t198), (t199), (t200), (t201), (t202), (t203), (by first | rfl | (simp; done) | (simp [*]; done)), (by first | rfl | (simp; done) | (simp [*]; done)), H', ⟨Nat.le_refl _⟩, ⟨by (with_reducible repeat (first | refine blk_drewN ?_ _ | refine blk_drew ?_ | refine blk_alloc ?_ _)); refine blk_put (cs := #[.int .i64 t197, .int .u64 t198, .int .u64 t199, .int .u64 t200, .int .u64 t201, .int .u64 t202, .int .u64 0]) ?_ 6 _ rfl; (with_reducible repeat (first | refine blk_drewN ?_ _ | refine blk_drew ?_ | refine blk_alloc ?_ _)); refine blk_put (cs := #[.int .i64 t197, .int .u64 t198, .int .u64 t199, .int .u64 t200, .int .u64 t201, .int .u64 0, .int .u64 0]) ?_ 5 _ rfl; (with_reducible repeat (first | refine blk_drewN ?_ _ | refine blk_drew ?_ | refine blk_alloc ?_ _)); refine blk_put (cs := #[.int .i64 t197, .int .u64 t198, .int .u64 t199, .int .u64 t200, .int .u64 0, .int .u64 0, .int .u64 0]) ?_ 4 _ rfl; (with_reducible repeat (first | refine blk_drewN ?_ _ | refine blk_drew ?_ | refine blk_alloc ?_ _)); refine blk_put (cs := #[.int .i64 t197, .int .u64 t198, .int .u64 t199, .int .u64 0, .int .u64 0, .int .u64 0, .int .u64 0]) ?_ 3 _ rfl; (with_reducible repeat (first | refine blk_drewN ?_ _ | refine blk_drew ?_ | refine blk_alloc ?_ _)); refine blk_put (cs := #[.int .i64 t197, .int .u64 t198, .int .u64 0, .int .u64 0, .int .u64 0, .int .u64 0, .int .u64 0]) ?_ 2 _ rfl; (with_reducible repeat (first | refine blk_drewN ?_ _ | refine blk_drew ?_ | refine blk_alloc ?_ _)); refine blk_put (cs := #[.int .i64 t197, .int .u64 0, .int .u64 0, .int .u64 0, .int .u64 0, .int .u64 0, .int .u64 0]) ?_ 1 _ rfl; (with_reducible repeat (first | refine blk_drewN ?_ _ | refine blk_drew ?_ | refine blk_alloc ?_ _)); refine blk_put (cs := #[.int .i64 0, .int .u64 0, .int .u64 0, .int .u64 0, .int .u64 0, .int .u64 0, .int .u64 0]) ?_ 0 _ rfl; (with_reducible repeat (first | refine blk_drewN ?_ _ | refine blk_drew ?_ | refine blk_alloc ?_ _)); exact BK204.out⟩, ⟨by repeat (first | (with_reducible first | exact HB.out | apply below_alloc | apply pw_below_drewN | apply below_drew1 | refine below_set ?_ GE204.out) | exact HB.out)⟩⟩
        case round =>
          clear H'
          try clear c1
          try clear c2
          try clear p2
          try clear c7
          try clear c7b0
          try clear c8
          try clear c9
          try clear hcz12_0
          try clear hcz12_1
          try clear hcz12_2
          try clear hcz12_3
          try clear hcz12_4
          try clear hcz12_5
          try clear hcz12_6
          try clear hfz12_0
          try clear hfz12_1
          try clear hfz12_2
          try clear hfz12_3
          try clear hfz12_4
          try clear hfz12_5
          try clear hfz12_6
          try clear p2
          obtain ⟨x9_2, x10_2, x205000_2, x205001_2, x205002_2, x205003_2, x205004_2, x205005_2, x205006_2, rfl, rfl, HA, HK2, BK204, HB⟩ := hrel
          cases gk with
          | zero => exact absurd HA.out (by simp [wigwaglaw11_HystartSteady.l0])
          | succ k2 =>
            have H := HA.out
            clear HA
            simp only [wigwaglaw11_HystartSteady.l0] at H
            have HC13 := Aside0.mk H
            clear H
            go_upto_region 7 with (fail)
            go_cut [29] (fun v29 wc => ∃ (kq : Nat) (x29_12 : Bool), v29 = .bool x29_12 ∧ Aside0 (wigwaglaw11_HystartSteady.j2 kq a1 l2 t196 x9_2 x10_2 x29_12 x205000_2 x205001_2 x205002_2 x205003_2 x205004_2 x205005_2 x205006_2 = some r) ∧ Aside0 (kq ≤ k2) ∧ Aside0 (wc.heap[gb204]? = some (.cells #[.int .i64 x205000_2, .int .u64 x205001_2, .int .u64 x205002_2, .int .u64 x205003_2, .int .u64 x205004_2, .int .u64 x205005_2, .int .u64 x205006_2] 25 (0, 0))) ∧ Aside0 (Below w.heap.size w wc))
            case first =>
              have H := HC13.out
              clear HC13
              by_cases c14 : x10_2 < (l2.length : Int)
              · rw [if_pos c14] at H
                have c14b0 : decide (x10_2 < (l2.length : Int)) = true := decide_eq_true c14
                clear c14
                (first | rw [c14b0] | (simp only [i64_w, i32_w]; rw [c14b0]) | skip)
                have H' := Aside0.mk H
                clear H
                go_wp2
                go_meet
                case rel => exact ⟨_, (decide (x10_2 < 200)), (by first | rfl | (simp; done) | (simp [*]; done)), H', ⟨by have := HJ4.out; have := HK2.out; first | omega | exact Nat.le_refl _⟩, ⟨by (with_reducible repeat (first | refine blk_drewN ?_ _ | refine blk_drew ?_ | refine blk_alloc ?_ _)); exact BK204.out⟩, ⟨by repeat (first | (with_reducible first | exact HB.out | apply below_alloc | apply pw_below_drewN | apply below_drew1 | refine below_set ?_ GE204.out) | exact HB.out)⟩⟩
              · rw [if_neg c14] at H
                have c14b0 : decide (x10_2 < (l2.length : Int)) = false := decide_eq_false c14
                clear c14
                (first | rw [c14b0] | (simp only [i64_w, i32_w]; rw [c14b0]) | skip)
                have H' := Aside0.mk H
                clear H
                go_wp2
                go_meet
                case rel => exact ⟨_, (false), (by first | rfl | (simp; done) | (simp [*]; done)), H', ⟨by have := HJ4.out; have := HK2.out; first | omega | exact Nat.le_refl _⟩, ⟨by (with_reducible repeat (first | refine blk_drewN ?_ _ | refine blk_drew ?_ | refine blk_alloc ?_ _)); exact BK204.out⟩, ⟨by repeat (first | (with_reducible first | exact HB.out | apply below_alloc | apply pw_below_drewN | apply below_drew1 | refine below_set ?_ GE204.out) | exact HB.out)⟩⟩
            case rest =>
              clear HC13
              try clear c1
              try clear c2
              try clear p2
              try clear c7
              try clear c7b0
              try clear c8
              try clear c9
              try clear c14
              try clear c14b0
              try clear hcz12_0
              try clear hcz12_1
              try clear hcz12_2
              try clear hcz12_3
              try clear hcz12_4
              try clear hcz12_5
              try clear hcz12_6
              try clear hfz12_0
              try clear hfz12_1
              try clear hfz12_2
              try clear hfz12_3
              try clear hfz12_4
              try clear hfz12_5
              try clear hfz12_6
              try clear p2
              obtain ⟨kq, x29_12, rfl, HA, HJ12, BK204, HB⟩ := hcut
              cases kq with
              | zero => exact absurd HA.out (by simp [wigwaglaw11_HystartSteady.j2])
              | succ kj12 =>
                have H := HA.out
                clear HA
                simp only [wigwaglaw11_HystartSteady.j2] at H
                by_cases c15 : x29_12 = true
                · subst c15
                  have H1 : (if 0 ≤ x10_2 then (if x10_2 < (l2.length : Int) then ((hystart_Sample.f kj12 x205000_2 x205001_2 x205002_2 x205003_2 x205004_2 x205005_2 x205006_2 (IntKind.u64.wrap (x9_2 + (Int.tmod (IntKind.u64.wrap (rd l2 x10_2)) 3))) (IntKind.u64.wrap ((IntKind.u64.wrap (x9_2 + (Int.tmod (IntKind.u64.wrap (rd l2 x10_2)) 3))) + (Int.tmod (IntKind.u64.wrap (rd l2 x10_2)) 9))) a1).bind fun bt207 => (if bt207.1 = 0 then (if bt207.2.2.2.1 = a1 then (wigwaglaw11_HystartSteady.l0 kj12 a1 l2 t196 (IntKind.u64.wrap (x9_2 + (Int.tmod (IntKind.u64.wrap (rd l2 x10_2)) 3))) (wrap64 (x10_2 + 1)) bt207.1 bt207.2.1 bt207.2.2.1 bt207.2.2.2.1 bt207.2.2.2.2.1 bt207.2.2.2.2.2.1 bt207.2.2.2.2.2.2) else (some false)) else (some false))) else (none)) else (none)) = some r := by rw [if_pos rfl] at H; exact H
                  clear H
                  have H := H1
                  clear H1
                  by_cases c16 : 0 ≤ x10_2
                  · rw [if_pos c16] at H
                    have c16b0 : decide (0 ≤ x10_2) = true := decide_eq_true c16
                    clear c16
                    by_cases c17 : x10_2 < (l2.length : Int)
                    · rw [if_pos c17] at H
                      have c17b0 : decide (x10_2 < (l2.length : Int)) = true := decide_eq_true c17
                      clear c17
                      replace H := Option.bind_eq_some_iff.mp H
                      obtain ⟨⟨t207, t208, t209, t210, t211, t212, t213⟩, A180, H⟩ := H
                      replace H : (if t207 = 0 then (if t210 = a1 then (wigwaglaw11_HystartSteady.l0 kj12 a1 l2 t196 (IntKind.u64.wrap (x9_2 + (Int.tmod (IntKind.u64.wrap (rd l2 x10_2)) 3))) (wrap64 (x10_2 + 1)) t207 t208 t209 t210 t211 t212 t213) else (some false)) else (some false)) = some r := H
                      have A18 := Aside0.mk A180
                      clear A180
                      have HS19 := Aside0.mk H
                      clear H
                      have p205 : 0 ≤ (x10_2 : Int) := of_decide_eq_true (by first | (with_reducible assumption) | assumption)
                      have q205 : x10_2 < (l2.length : Int) := of_decide_eq_true (by first | (with_reducible assumption) | assumption)
                      obtain ⟨ad205, e205, hx205_0⟩ := Kd.at_int HR2.out x10_2 p205 q205
                      cases e205
                      replace hx205_0 := (HB.out.cell (World.block_lt_of_cell? w _ hx205_0)).trans hx205_0
                      replace p205 := eq_true p205
                      replace q205 := eq_true q205
                      try go_wp2
                      have n0_ := Aside0.mk (blk_drew BK204.out)
                      have n1_ := Aside0.mk (below_drew1 HB.out)
                      clear BK204
                      clear HB
                      have BK204 := n0_
                      have HB := n1_
                      clear n0_ n1_
                      have p206 : 0 ≤ (x10_2 : Int) := of_decide_eq_true (by first | (with_reducible assumption) | assumption)
                      have q206 : x10_2 < (l2.length : Int) := of_decide_eq_true (by first | (with_reducible assumption) | assumption)
                      obtain ⟨ad206, e206, hx206_0⟩ := Kd.at_int HR2.out x10_2 p206 q206
                      have hw206_0 := hx206_0
                      obtain rfl : ad205 = ad206 := (by injection e206)
                      replace hx206_0 := (HB.out.cell (World.block_lt_of_cell? w _ hx206_0)).trans hx206_0
                      replace p206 := eq_true p206
                      replace q206 := eq_true q206
                      refine start_ (n := 13) (S := fun w' => w'.cell? ⟨gb204, 0, none⟩ = some (.int .i64 x205000_2) ∧ w'.cell? ⟨gb204, 1, none⟩ = some (.int .u64 x205001_2) ∧ w'.cell? ⟨gb204, 2, none⟩ = some (.int .u64 x205002_2) ∧ w'.cell? ⟨gb204, 3, none⟩ = some (.int .u64 x205003_2) ∧ w'.cell? ⟨gb204, 4, none⟩ = some (.int .u64 x205004_2) ∧ w'.cell? ⟨gb204, 5, none⟩ = some (.int .u64 x205005_2) ∧ w'.cell? ⟨gb204, 6, none⟩ = some (.int .u64 x205006_2) ∧ w'.cell? (ad205.add (x10_2).toNat) = some (.int .u8 (rd l2 x10_2))) (ds := [12]) #[false, false, false, false, false, false, false, false, false, false, false, false, false] (by kernel_rfl) rfl rfl ⟨(blk_cell BK204.out 0).trans rfl, (blk_cell BK204.out 1).trans rfl, (blk_cell BK204.out 2).trans rfl, (blk_cell BK204.out 3).trans rfl, (blk_cell BK204.out 4).trans rfl, (blk_cell BK204.out 5).trans rfl, (blk_cell BK204.out 6).trans rfl, ((HB.out.cell (World.block_lt_of_cell? w _ hw206_0)).trans hw206_0)⟩ (fun hHeld => ?_); refine with_tabW wigwaglaw11_HystartSteady.tab10 wigwaglaw11_HystartSteady.bits10 (fun HT_ HW_ => ?_)
                      generalize wc.drew = w20 at BK204 HB hx206_0 hHeld ⊢
                      refine pure_ (i := 1) (N := some 41) (v := ?_) (a' := ?_) #[false, true, false, false, false, false, false, false, false, false, false, false, false] rfl rfl (any_of HT_.out (by kernel_rfl)) (fun _ _ _ h => h) (Or.inl ⟨by rfl, ?_⟩) ?_ ?_
                      rotate_left
                      · intro w'
                        go_simp
                        with_reducible rfl
                      rotate_left
                      · simp only [Act.put, List.setIfInBounds_toArray, List.set_cons_zero, List.set_cons_succ, i64_w, i32_w]
                        rfl
                      refine pure_ (i := 2) (N := some 42) (v := ?_) (a' := ?_) #[false, true, true, false, false, false, false, false, false, false, false, false, false] rfl rfl (any_of HT_.out (by kernel_rfl)) (fun _ _ _ h => h) (Or.inl ⟨by rfl, ?_⟩) ?_ ?_
                      rotate_left
                      · intro w'
                        go_simp
                        with_reducible rfl
                      rotate_left
                      · simp only [Act.put, List.setIfInBounds_toArray, List.set_cons_zero, List.set_cons_succ, i64_w, i32_w]
                        rfl
                      refine pure_ (i := 3) (N := some 43) (v := ?_) (a' := ?_) #[false, true, true, true, false, false, false, false, false, false, false, false, false] rfl rfl (any_of HT_.out (by kernel_rfl)) (fun _ _ _ h => h) (Or.inl ⟨by rfl, ?_⟩) ?_ ?_
                      rotate_left
                      · intro w'
                        go_simp
                        with_reducible rfl
                      rotate_left
                      · simp only [Act.put, List.setIfInBounds_toArray, List.set_cons_zero, List.set_cons_succ, i64_w, i32_w]
                        rfl
                      refine pure_ (i := 4) (N := some 44) (v := ?_) (a' := ?_) #[false, true, true, true, true, false, false, false, false, false, false, false, false] rfl rfl (any_of HT_.out (by kernel_rfl)) (fun _ _ _ h => h) (Or.inl ⟨by rfl, ?_⟩) ?_ ?_
                      rotate_left
                      · intro w'
                        go_simp
                        with_reducible rfl
                      rotate_left
                      · simp only [Act.put, List.setIfInBounds_toArray, List.set_cons_zero, List.set_cons_succ, i64_w, i32_w]
                        rfl
                      refine pure_ (i := 5) (N := some 45) (v := ?_) (a' := ?_) #[false, true, true, true, true, true, false, false, false, false, false, false, false] rfl rfl (any_of HT_.out (by kernel_rfl)) (fun _ _ _ h => h) (Or.inl ⟨by rfl, ?_⟩) ?_ ?_
                      rotate_left
                      · intro w'
                        go_simp
                        with_reducible rfl
                      rotate_left
                      · simp only [Act.put, List.setIfInBounds_toArray, List.set_cons_zero, List.set_cons_succ, i64_w, i32_w]
                        rfl
                      refine pure_ (i := 10) (N := some 50) (v := ?_) (a' := ?_) #[false, true, true, true, true, true, false, false, false, false, true, false, false] rfl rfl (any_of HT_.out (by kernel_rfl)) (fun _ _ _ h => h) (Or.inl ⟨by rfl, ?_⟩) ?_ ?_
                      rotate_left
                      · intro w'
                        go_simp
                        with_reducible rfl
                      rotate_left
                      · simp only [Act.put, List.setIfInBounds_toArray, List.set_cons_zero, List.set_cons_succ, i64_w, i32_w]
                        rfl
                      refine take_ (i := 0) (N := some 40) (v := ?_) (a' := ?_) #[true, true, true, true, true, true, false, false, false, false, true, false, false] rfl rfl (take_ofW HT_.out HW_.out (by kernel_rfl)) (fun _ _ _ h => h) (Or.inl ⟨by rfl, ?_⟩) hHeld ?_ ?_
                      rotate_left
                      · rintro w' ⟨s0, s1, s2, s3, s4, s5, s6, s7⟩
                        go_simp
                        with_reducible rfl
                      rotate_left
                      · simp only [Act.put, List.setIfInBounds_toArray, List.set_cons_zero, List.set_cons_succ, i64_w, i32_w]
                        rfl
                      refine take_ (i := 6) (N := some 46) (v := ?_) (a' := ?_) #[true, true, true, true, true, true, true, false, false, false, true, false, false] rfl rfl (take_ofW HT_.out HW_.out (by kernel_rfl)) (fun _ _ _ h => h) (Or.inl ⟨by rfl, ?_⟩) hHeld ?_ ?_
                      rotate_left
                      · rintro w' ⟨s0, s1, s2, s3, s4, s5, s6, s7⟩
                        go_simp
                        with_reducible rfl
                      rotate_left
                      · simp only [Act.put, List.setIfInBounds_toArray, List.set_cons_zero, List.set_cons_succ, i64_w, i32_w]
                        rfl
                      refine pure_ (i := 7) (N := some 47) (v := ?_) (a' := ?_) #[true, true, true, true, true, true, true, true, false, false, true, false, false] rfl rfl (any_of HT_.out (by kernel_rfl)) (fun _ _ _ h => h) (Or.inl ⟨by rfl, ?_⟩) ?_ ?_
                      rotate_left
                      · intro w'
                        go_simp
                        with_reducible rfl
                      rotate_left
                      · simp only [Act.put, List.setIfInBounds_toArray, List.set_cons_zero, List.set_cons_succ, i64_w, i32_w]
                        rfl
                      refine pure_ (i := 8) (N := some 48) (v := ?_) (a' := ?_) #[true, true, true, true, true, true, true, true, true, false, true, false, false] rfl rfl (any_of HT_.out (by kernel_rfl)) (fun _ _ _ h => h) (Or.inl ⟨by rfl, ?_⟩) ?_ ?_
                      rotate_left
                      · intro w'
                        go_simp
                        with_reducible rfl
                      rotate_left
                      · simp only [Act.put, List.setIfInBounds_toArray, List.set_cons_zero, List.set_cons_succ, i64_w, i32_w]
                        rfl
                      refine pure_ (i := 9) (N := some 49) (v := ?_) (a' := ?_) #[true, true, true, true, true, true, true, true, true, true, true, false, false] rfl rfl (any_of HT_.out (by kernel_rfl)) (fun _ _ _ h => h) (Or.inl ⟨by rfl, ?_⟩) ?_ ?_
                      rotate_left
                      · intro w'
                        go_simp
                        with_reducible rfl
                      rotate_left
                      · simp only [Act.put, List.setIfInBounds_toArray, List.set_cons_zero, List.set_cons_succ, i64_w, i32_w]
                        rfl
                      refine one_ (i := 11) (N := some 51) #[true, true, true, true, true, true, true, true, true, true, true, true, false] rfl rfl (one_of HT_.out (by kernel_rfl)) (by decide) (fun K hK => ?_)
                      refine goes_ Try.func10 (by kernel_rfl) rfl #[.agg #[.int .i64 x205000_2, .int .u64 x205001_2, .int .u64 x205002_2, .int .u64 x205003_2, .int .u64 x205004_2, .int .u64 x205005_2, .int .u64 x205006_2], .int .u64 (IntKind.u64.wrap (x9_2 + (Int.tmod (IntKind.u64.wrap (rd l2 x10_2)) 3))), .int .u64 (IntKind.u64.wrap ((IntKind.u64.wrap (x9_2 + (Int.tmod (IntKind.u64.wrap (rd l2 x10_2)) 3))) + (Int.tmod (IntKind.u64.wrap (rd l2 x10_2)) 9))), .int .u64 a1] (by rfl) rfl rfl (by (try simp only [List.map_toArray, List.map_cons, List.map_nil]); first | done | rfl | (simp only [List.length_drop, List.length_take]; rfl)) ?_
                      with_reducible refine (hystart_Sample.calls kj12 x205000_2 x205001_2 x205002_2 x205003_2 x205004_2 x205005_2 x205006_2 (IntKind.u64.wrap (x9_2 + (Int.tmod (IntKind.u64.wrap (rd l2 x10_2)) 3))) (IntKind.u64.wrap ((IntKind.u64.wrap (x9_2 + (Int.tmod (IntKind.u64.wrap (rd l2 x10_2)) 3))) + (Int.tmod (IntKind.u64.wrap (rd l2 x10_2)) 9))) a1 t207 t208 t209 t210 t211 t212 t213 _ A18.out).mono ?_
                      rintro e w21 ⟨rfl, hb⟩
                      refine ⟨_, rfl, ?_⟩
                      have n0_ := Aside0.mk (blk_below (g := gb204) (o := .cells #[.int .i64 x205000_2, .int .u64 x205001_2, .int .u64 x205002_2, .int .u64 x205003_2, .int .u64 x205004_2, .int .u64 x205005_2, .int .u64 x205006_2] 25 (0, 0)) (by (with_reducible repeat (first | refine blk_drewN ?_ _ | refine blk_drew ?_ | refine blk_alloc ?_ _)); exact BK204.out) hb)
                      have n1_ := Aside0.mk (below_step (by repeat (first | (with_reducible first | exact HB.out | apply below_alloc | apply pw_below_drewN | apply below_drew1 | refine below_set ?_ GE204.out) | exact HB.out)) hb)
                      clear BK204
                      clear HB
                      have BK204 := n0_
                      have HB := n1_
                      clear n0_ n1_
                      (try clear hb)
                      (try clear hb2)
                      (try clear hk)
                      (try clear hi)
                      refine hK.out _ _ ⟨(blk_cell BK204.out 0).trans rfl, (blk_cell BK204.out 1).trans rfl, (blk_cell BK204.out 2).trans rfl, (blk_cell BK204.out 3).trans rfl, (blk_cell BK204.out 4).trans rfl, (blk_cell BK204.out 5).trans rfl, (blk_cell BK204.out 6).trans rfl, ((HB.out.cell (World.block_lt_of_cell? w _ hw206_0)).trans hw206_0)⟩ (fun hHeld => ?_)
                      clear hK K
                      refine norm_ (a' := ?_) ?_ ?_
                      rotate_left
                      · show Act.put _ (some 51) _ = _
                        simp only [Act.put, List.setIfInBounds_toArray, List.set_cons_zero, List.set_cons_succ, i64_w, i32_w]
                        rfl
                      refine last_ (i := 12) (N := none) #[true, true, true, true, true, true, true, true, true, true, true, true, true] rfl rfl (one_of HT_.out (by kernel_rfl)) (by decide) (fun K hK => ?_)
                      have hs22 : w21.cell? ⟨gb204, 0, none⟩ = some (.int .i64 x205000_2) := (blk_cell BK204.out 0).trans rfl
                      have hfs22 := blk_frozen BK204.out 0
                      have hs23 : w21.cell? ⟨gb204, 1, none⟩ = some (.int .u64 x205001_2) := (blk_cell BK204.out 1).trans rfl
                      have hfs23 := blk_frozen BK204.out 1
                      have hs24 : w21.cell? ⟨gb204, 2, none⟩ = some (.int .u64 x205002_2) := (blk_cell BK204.out 2).trans rfl
                      have hfs24 := blk_frozen BK204.out 2
                      have hs25 : w21.cell? ⟨gb204, 3, none⟩ = some (.int .u64 x205003_2) := (blk_cell BK204.out 3).trans rfl
                      have hfs25 := blk_frozen BK204.out 3
                      have hs26 : w21.cell? ⟨gb204, 4, none⟩ = some (.int .u64 x205004_2) := (blk_cell BK204.out 4).trans rfl
                      have hfs26 := blk_frozen BK204.out 4
                      have hs27 : w21.cell? ⟨gb204, 5, none⟩ = some (.int .u64 x205005_2) := (blk_cell BK204.out 5).trans rfl
                      have hfs27 := blk_frozen BK204.out 5
                      have hs28 : w21.cell? ⟨gb204, 6, none⟩ = some (.int .u64 x205006_2) := (blk_cell BK204.out 6).trans rfl
                      have hfs28 := blk_frozen BK204.out 6
                      refine skip_ (w1 := ?_) (by rfl) rfl ?_ ?_
                      rotate_left
                      · go_simp
                        rfl
                      refine hK.out _ _ ?_
                      clear hK K
                      refine done_ (done_of HT_.out (by kernel_rfl)) ?_
                      go_upto_region 11 with (fail)
                      (try simp only [Act.put, List.setIfInBounds_toArray, List.set_cons_zero, List.set_cons_succ])
                      have H := HS19.out
                      clear HS19
                      by_cases c29 : t207 = 0
                      · rw [if_pos c29] at H
                        have c29b0 : (t207 == 0) = true := beq_iff_eq.mpr c29
                        have c29b1 : (t207 != 0) = false := bne_eq_false_iff_eq.mpr c29
                        clear c29
                        by_cases c30 : t210 = a1
                        · rw [if_pos c30] at H
                          have c30b0 : (t210 == a1) = true := beq_iff_eq.mpr c30
                          have c30b1 : (t210 != a1) = false := bne_eq_false_iff_eq.mpr c30
                          clear c30
                          have H' := Aside0.mk H
                          clear H
                          have hcz31_0 : w21.cell? ⟨gb204, 0, none⟩ = some (.int .i64 x205000_2) := (blk_cell BK204.out 0).trans rfl
                          have hcz31_1 : w21.cell? ⟨gb204, 1, none⟩ = some (.int .u64 x205001_2) := (blk_cell BK204.out 1).trans rfl
                          have hcz31_2 : w21.cell? ⟨gb204, 2, none⟩ = some (.int .u64 x205002_2) := (blk_cell BK204.out 2).trans rfl
                          have hcz31_3 : w21.cell? ⟨gb204, 3, none⟩ = some (.int .u64 x205003_2) := (blk_cell BK204.out 3).trans rfl
                          have hcz31_4 : w21.cell? ⟨gb204, 4, none⟩ = some (.int .u64 x205004_2) := (blk_cell BK204.out 4).trans rfl
                          have hcz31_5 : w21.cell? ⟨gb204, 5, none⟩ = some (.int .u64 x205005_2) := (blk_cell BK204.out 5).trans rfl
                          have hcz31_6 : w21.cell? ⟨gb204, 6, none⟩ = some (.int .u64 x205006_2) := (blk_cell BK204.out 6).trans rfl
                          have hfz31_0 := blk_frozen BK204.out 0
                          have hfz31_1 := blk_frozen BK204.out 1
                          have hfz31_2 := blk_frozen BK204.out 2
                          have hfz31_3 := blk_frozen BK204.out 3
                          have hfz31_4 := blk_frozen BK204.out 4
                          have hfz31_5 := blk_frozen BK204.out 5
                          have hfz31_6 := blk_frozen BK204.out 6
                          go_wp2
                          go_roundg kj12
                          case measure => have := HJ4.out; have := HK2.out; have := HJ12.out; omega
                          case rel => exact ⟨(IntKind.u64.wrap (x9_2 + (Int.tmod (IntKind.u64.wrap (rd l2 x10_2)) 3))), (wrap64 (x10_2 + 1)), (t207), (t208), (t209), (t210), (t211), (t212), (t213), (by first | rfl | (simp; done) | (simp [*]; done)), (by first | rfl | (simp; done) | (simp [*]; done)), H', ⟨by have := HJ4.out; have := HK2.out; have := HJ12.out; omega⟩, ⟨by (with_reducible repeat (first | refine blk_drewN ?_ _ | refine blk_drew ?_ | refine blk_alloc ?_ _)); refine blk_put (cs := #[.int .i64 t207, .int .u64 t208, .int .u64 t209, .int .u64 t210, .int .u64 t211, .int .u64 t212, .int .u64 x205006_2]) ?_ 6 _ rfl; (with_reducible repeat (first | refine blk_drewN ?_ _ | refine blk_drew ?_ | refine blk_alloc ?_ _)); refine blk_put (cs := #[.int .i64 t207, .int .u64 t208, .int .u64 t209, .int .u64 t210, .int .u64 t211, .int .u64 x205005_2, .int .u64 x205006_2]) ?_ 5 _ rfl; (with_reducible repeat (first | refine blk_drewN ?_ _ | refine blk_drew ?_ | refine blk_alloc ?_ _)); refine blk_put (cs := #[.int .i64 t207, .int .u64 t208, .int .u64 t209, .int .u64 t210, .int .u64 x205004_2, .int .u64 x205005_2, .int .u64 x205006_2]) ?_ 4 _ rfl; (with_reducible repeat (first | refine blk_drewN ?_ _ | refine blk_drew ?_ | refine blk_alloc ?_ _)); refine blk_put (cs := #[.int .i64 t207, .int .u64 t208, .int .u64 t209, .int .u64 x205003_2, .int .u64 x205004_2, .int .u64 x205005_2, .int .u64 x205006_2]) ?_ 3 _ rfl; (with_reducible repeat (first | refine blk_drewN ?_ _ | refine blk_drew ?_ | refine blk_alloc ?_ _)); refine blk_put (cs := #[.int .i64 t207, .int .u64 t208, .int .u64 x205002_2, .int .u64 x205003_2, .int .u64 x205004_2, .int .u64 x205005_2, .int .u64 x205006_2]) ?_ 2 _ rfl; (with_reducible repeat (first | refine blk_drewN ?_ _ | refine blk_drew ?_ | refine blk_alloc ?_ _)); refine blk_put (cs := #[.int .i64 t207, .int .u64 x205001_2, .int .u64 x205002_2, .int .u64 x205003_2, .int .u64 x205004_2, .int .u64 x205005_2, .int .u64 x205006_2]) ?_ 1 _ rfl; (with_reducible repeat (first | refine blk_drewN ?_ _ | refine blk_drew ?_ | refine blk_alloc ?_ _)); refine blk_put (cs := #[.int .i64 x205000_2, .int .u64 x205001_2, .int .u64 x205002_2, .int .u64 x205003_2, .int .u64 x205004_2, .int .u64 x205005_2, .int .u64 x205006_2]) ?_ 0 _ rfl; (with_reducible repeat (first | refine blk_drewN ?_ _ | refine blk_drew ?_ | refine blk_alloc ?_ _)); exact BK204.out⟩, ⟨by repeat (first | (with_reducible first | exact HB.out | apply below_alloc | apply pw_below_drewN | apply below_drew1 | refine below_set ?_ GE204.out) | exact HB.out)⟩⟩
                        · rw [if_neg c30] at H
                          have c30b0 : (t210 == a1) = false := beq_eq_false_iff_ne.mpr c30
                          have c30b1 : (t210 != a1) = true := bne_iff_ne.mpr c30
                          obtain rfl := Option.some.inj H
                          have hcz32_0 : w21.cell? ⟨gb204, 0, none⟩ = some (.int .i64 x205000_2) := (blk_cell BK204.out 0).trans rfl
                          have hcz32_1 : w21.cell? ⟨gb204, 1, none⟩ = some (.int .u64 x205001_2) := (blk_cell BK204.out 1).trans rfl
                          have hcz32_2 : w21.cell? ⟨gb204, 2, none⟩ = some (.int .u64 x205002_2) := (blk_cell BK204.out 2).trans rfl
                          have hcz32_3 : w21.cell? ⟨gb204, 3, none⟩ = some (.int .u64 x205003_2) := (blk_cell BK204.out 3).trans rfl
                          have hcz32_4 : w21.cell? ⟨gb204, 4, none⟩ = some (.int .u64 x205004_2) := (blk_cell BK204.out 4).trans rfl
                          have hcz32_5 : w21.cell? ⟨gb204, 5, none⟩ = some (.int .u64 x205005_2) := (blk_cell BK204.out 5).trans rfl
                          have hcz32_6 : w21.cell? ⟨gb204, 6, none⟩ = some (.int .u64 x205006_2) := (blk_cell BK204.out 6).trans rfl
                          have hfz32_0 := blk_frozen BK204.out 0
                          have hfz32_1 := blk_frozen BK204.out 1
                          have hfz32_2 := blk_frozen BK204.out 2
                          have hfz32_3 := blk_frozen BK204.out 3
                          have hfz32_4 := blk_frozen BK204.out 4
                          have hfz32_5 := blk_frozen BK204.out 5
                          have hfz32_6 := blk_frozen BK204.out 6
                          go_wp2
                          go_ret
                          exact ⟨by first | rfl | (simp [errW_none, errW_some] <;> rfl) | (simp [*, errW_none, errW_some] <;> rfl), by repeat (first | (with_reducible first | exact HB.out | apply below_alloc | apply pw_below_drewN | apply below_drew1 | refine below_set ?_ GE204.out) | exact HB.out)⟩
                      · rw [if_neg c29] at H
                        have c29b0 : (t207 == 0) = false := beq_eq_false_iff_ne.mpr c29
                        have c29b1 : (t207 != 0) = true := bne_iff_ne.mpr c29
                        obtain rfl := Option.some.inj H
                        have hcz33_0 : w21.cell? ⟨gb204, 0, none⟩ = some (.int .i64 x205000_2) := (blk_cell BK204.out 0).trans rfl
                        have hcz33_1 : w21.cell? ⟨gb204, 1, none⟩ = some (.int .u64 x205001_2) := (blk_cell BK204.out 1).trans rfl
                        have hcz33_2 : w21.cell? ⟨gb204, 2, none⟩ = some (.int .u64 x205002_2) := (blk_cell BK204.out 2).trans rfl
                        have hcz33_3 : w21.cell? ⟨gb204, 3, none⟩ = some (.int .u64 x205003_2) := (blk_cell BK204.out 3).trans rfl
                        have hcz33_4 : w21.cell? ⟨gb204, 4, none⟩ = some (.int .u64 x205004_2) := (blk_cell BK204.out 4).trans rfl
                        have hcz33_5 : w21.cell? ⟨gb204, 5, none⟩ = some (.int .u64 x205005_2) := (blk_cell BK204.out 5).trans rfl
                        have hcz33_6 : w21.cell? ⟨gb204, 6, none⟩ = some (.int .u64 x205006_2) := (blk_cell BK204.out 6).trans rfl
                        have hfz33_0 := blk_frozen BK204.out 0
                        have hfz33_1 := blk_frozen BK204.out 1
                        have hfz33_2 := blk_frozen BK204.out 2
                        have hfz33_3 := blk_frozen BK204.out 3
                        have hfz33_4 := blk_frozen BK204.out 4
                        have hfz33_5 := blk_frozen BK204.out 5
                        have hfz33_6 := blk_frozen BK204.out 6
                        go_wp2
                        go_ret
                        exact ⟨by first | rfl | (simp [errW_none, errW_some] <;> rfl) | (simp [*, errW_none, errW_some] <;> rfl), by repeat (first | (with_reducible first | exact HB.out | apply below_alloc | apply pw_below_drewN | apply below_drew1 | refine below_set ?_ GE204.out) | exact HB.out)⟩
                    · rw [if_neg c17] at H
                      exact absurd H (by simp)
                  · rw [if_neg c16] at H
                    exact absurd H (by simp)
                · replace c15 := Bool.eq_false_iff.mpr c15
                  subst c15
                  have H1 : (some t196) = some r := by rw [if_neg (show ¬ (false = true) by decide)] at H; exact H
                  clear H
                  have H := H1
                  clear H1
                  obtain rfl := Option.some.inj H
                  go_wp2
                  go_ret
                  exact ⟨by first | rfl | (simp [errW_none, errW_some] <;> rfl) | (simp [*, errW_none, errW_some] <;> rfl), by repeat (first | (with_reducible first | exact HB.out | apply below_alloc | apply pw_below_drewN | apply below_drew1 | refine below_set ?_ GE204.out) | exact HB.out)⟩

/-- THE ONE PURE STATEMENT of wigwaglaw11_HystartSteady: yours. -/
def wigwaglaw11_HystartSteady.Pure : Prop := ∀ (a0 : Int) (a1 : Int) (l2 : List Int), (Lit.int .u64 a0).wf = true → (Lit.int .u64 a1).wf = true → l2.length ≤ maxLen → l2.length * 1 ≤ 140737488351232 → (∀ x ∈ l2, (Lit.int .u8 x).wf = true) → ∃ k, wigwaglaw11_HystartSteady.f k a0 a1 l2 = some true
theorem wigwaglaw11_HystartSteady.walk (P : wigwaglaw11_HystartSteady.Pure) (a0 : Int) (a1 : Int) (a2 : Option Addr) (len2 cap2 : Nat) (z2 : List Int) (w : World) (w0 : (Lit.int .u64 a0).wf = true) (w1 : (Lit.int .u64 a1).wf = true) (w2 : (a2 = none ∧ len2 = 0 ∧ cap2 = 0 ∧ z2 = []) ∨ ∃ x, a2 = some x ∧ len2 ≤ cap2 ∧ cap2 ≤ maxLen ∧ z2.length = cap2 ∧ (∀ i, i < z2.length → w.cell? (x.add i) = some (.int .u8 (z2.getD i 0))) ∧ ∀ n ∈ z2, (Lit.int .u8 n).wf = true) (y2 : len2 * 1 ≤ 140737488351232) :
    Calls Try.prog 8 #[.int .u64 a0, .int .u64 a1, .slice a2 len2 cap2] w fun e w' => e = .returned (.bool true) ∧ Below w.heap.size w w' := by
  obtain ⟨l2, rfl, hr2, hm2, hw2, hc2⟩ := ReadsInt.ofRowC w2
  obtain ⟨k, h⟩ := P a0 a1 l2 w0 w1 hm2 y2 hw2
  refine (wigwaglaw11_HystartSteady.calls k a0 a1 _ _ l2 true w (Kd.C_of_reads (d := (0 : Int)) (h1 := fun _ => rfl) hr2) hc2 h).mono ?_
  rintro e w' ⟨rfl, hd⟩
  exact ⟨rfl, hd⟩

end Go.Proofs.Ythclohjlbajclaa.P
