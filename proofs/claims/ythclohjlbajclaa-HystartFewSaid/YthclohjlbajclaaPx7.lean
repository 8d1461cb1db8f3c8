-- Printed for this claim by xprint.py of this session: contracts of this session's own stand in for what the print does not take
import Derived.Test.YthclohjlbajclaaPx0
import Derived.Test.YthclohjlbajclaaPx3
import Derived.Test.YthclohjlbajclaaPx5
namespace Go.Proofs.Ythclohjlbajclaa.P
open Go.RowKit Go.Proofs.YthclohjlbajclaaW.PrintWords Go.Proofs.YthclohjlbajclaaW.PrintLast Go.Proofs.YthclohjlbajclaaW.PrintMore
attribute [local go_sem] max2_int min2_int max_two min_two max_three min_three max_four min_four   -- for this text's walks alone
set_option linter.unusedVariables false
set_option linter.unusedSimpArgs false

/-! ### wigwaglaw11_HystartFew: function 6 -/
mutual
def wigwaglaw11_HystartFew.j0 : Nat → Int → List Int → Bool → Bool → Int → Int → Int → Int → Int → Int → Int → Option (Bool)
  | 0, _, _, _, _, _, _, _, _, _, _, _ => none
  | k + 1, x1, x2, x7, x25, x168000, x168001, x168002, x168003, x168004, x168005, x168006 => if x25 = true then (some x7) else (wigwaglaw11_HystartFew.l0 k x1 x2 x7 0 x168000 x168001 x168002 x168003 0 x168005 x168006 x168000 x168001 x168002 x168003 0 x168005 x168006)
def wigwaglaw11_HystartFew.l0 : Nat → Int → List Int → Bool → Int → Int → Int → Int → Int → Int → Int → Int → Int → Int → Int → Int → Int → Int → Int → Option (Bool)
  | 0, _, _, _, _, _, _, _, _, _, _, _, _, _, _, _, _, _, _ => none
  | k + 1, x1, x2, x7, x9, x168000, x168001, x168002, x168003, x168004, x168005, x168006, x170000, x170001, x170002, x170003, x170004, x170005, x170006 => if x9 < (x2.length : Int) then (wigwaglaw11_HystartFew.j2 k x1 x2 x7 x9 (decide (x9 < 7)) x168000 x168001 x168002 x168003 x168004 x168005 x168006 x170000 x170001 x170002 x170003 x170004 x170005 x170006) else (wigwaglaw11_HystartFew.j2 k x1 x2 x7 x9 false x168000 x168001 x168002 x168003 x168004 x168005 x168006 x170000 x170001 x170002 x170003 x170004 x170005 x170006)
def wigwaglaw11_HystartFew.j2 : Nat → Int → List Int → Bool → Int → Bool → Int → Int → Int → Int → Int → Int → Int → Int → Int → Int → Int → Int → Int → Int → Option (Bool)
  | 0, _, _, _, _, _, _, _, _, _, _, _, _, _, _, _, _, _, _, _ => none
  | k + 1, x1, x2, x7, x9, x36, x168000, x168001, x168002, x168003, x168004, x168005, x168006, x170000, x170001, x170002, x170003, x170004, x170005, x170006 => if x36 = true then (if 0 ≤ x9 then (if x9 < (x2.length : Int) then ((hystart_Sample.f k x170000 x170001 x170002 x170003 x170004 x170005 x170006 (IntKind.u64.wrap (x168001 - 1)) x1 (rd x2 x9)).bind fun bt171 => (wigwaglaw11_HystartFew.l0 k x1 x2 x7 (wrap64 (x9 + 1)) x168000 x168001 x168002 x168003 x168004 x168005 x168006 bt171.1 bt171.2.1 bt171.2.2.1 bt171.2.2.2.1 bt171.2.2.2.2.1 bt171.2.2.2.2.2.1 bt171.2.2.2.2.2.2)) else (none)) else (none)) else (wigwaglaw11_HystartFew.l1 k x2 x7 x168003 0 x168000 x168001 x168002 x168003 x168004 x168005 x168006 x170000 x170001 x170002 x170003 x170004 x170005 x170006)
def wigwaglaw11_HystartFew.l1 : Nat → List Int → Bool → Int → Int → Int → Int → Int → Int → Int → Int → Int → Int → Int → Int → Int → Int → Int → Int → Option (Bool)
  | 0, _, _, _, _, _, _, _, _, _, _, _, _, _, _, _, _, _, _ => none
  | k + 1, x2, x7, x10, x11, x168000, x168001, x168002, x168003, x168004, x168005, x168006, x170000, x170001, x170002, x170003, x170004, x170005, x170006 => if x11 < (x2.length : Int) then (if x11 < 7 then (if 0 ≤ x11 then (wigwaglaw11_HystartFew.l1 k x2 x7 (mn x10 (rd x2 x11)) (wrap64 (x11 + 1)) x168000 x168001 x168002 x168003 x168004 x168005 x168006 x170000 x170001 x170002 x170003 x170004 x170005 x170006) else (none)) else (if x7 = true then (if x170000 = x168000 then (if x170001 = x168001 then (if x170002 = x168002 then (if x170005 = x168005 then (if x170006 = x168006 then (some (x170003 == x10)) else (some false)) else (some false)) else (some false)) else (some false)) else (some false)) else (some false))) else (if x7 = true then (if x170000 = x168000 then (if x170001 = x168001 then (if x170002 = x168002 then (if x170005 = x168005 then (if x170006 = x168006 then (some (x170003 == x10)) else (some false)) else (some false)) else (some false)) else (some false)) else (some false)) else (some false))
end
def wigwaglaw11_HystartFew.f (k : Nat) (a0_0 : Int) (a0_1 : Int) (a0_2 : Int) (a0_3 : Int) (a0_4 : Int) (a0_5 : Int) (a0_6 : Int) (a1 : Int) (l2 : List Int) : Option (Bool) := (wigwaglaw11_awake.f k).bind fun t168 => (if a0_0 = 0 then (wigwaglaw11_HystartFew.j0 k a1 l2 t168 (a0_1 == 0) a0_0 a0_1 a0_2 a0_3 a0_4 a0_5 a0_6) else (if a0_0 = 1 then (wigwaglaw11_HystartFew.j0 k a1 l2 t168 (a0_1 == 0) a0_0 a0_1 a0_2 a0_3 a0_4 a0_5 a0_6) else (wigwaglaw11_HystartFew.j0 k a1 l2 t168 true a0_0 a0_1 a0_2 a0_3 a0_4 a0_5 a0_6)))
theorem wigwaglaw11_HystartFew.mono_l : ∀ k, (∀ y0 y1 y2 y3 y4 y5 y6 y7 y8 y9 y10, LeO (wigwaglaw11_HystartFew.j0 k y0 y1 y2 y3 y4 y5 y6 y7 y8 y9 y10) (wigwaglaw11_HystartFew.j0 (k + 1) y0 y1 y2 y3 y4 y5 y6 y7 y8 y9 y10)) ∧ (∀ y0 y1 y2 y3 y4 y5 y6 y7 y8 y9 y10 y11 y12 y13 y14 y15 y16 y17, LeO (wigwaglaw11_HystartFew.l0 k y0 y1 y2 y3 y4 y5 y6 y7 y8 y9 y10 y11 y12 y13 y14 y15 y16 y17) (wigwaglaw11_HystartFew.l0 (k + 1) y0 y1 y2 y3 y4 y5 y6 y7 y8 y9 y10 y11 y12 y13 y14 y15 y16 y17)) ∧ (∀ y0 y1 y2 y3 y4 y5 y6 y7 y8 y9 y10 y11 y12 y13 y14 y15 y16 y17 y18, LeO (wigwaglaw11_HystartFew.j2 k y0 y1 y2 y3 y4 y5 y6 y7 y8 y9 y10 y11 y12 y13 y14 y15 y16 y17 y18) (wigwaglaw11_HystartFew.j2 (k + 1) y0 y1 y2 y3 y4 y5 y6 y7 y8 y9 y10 y11 y12 y13 y14 y15 y16 y17 y18)) ∧ (∀ y0 y1 y2 y3 y4 y5 y6 y7 y8 y9 y10 y11 y12 y13 y14 y15 y16 y17, LeO (wigwaglaw11_HystartFew.l1 k y0 y1 y2 y3 y4 y5 y6 y7 y8 y9 y10 y11 y12 y13 y14 y15 y16 y17) (wigwaglaw11_HystartFew.l1 (k + 1) y0 y1 y2 y3 y4 y5 y6 y7 y8 y9 y10 y11 y12 y13 y14 y15 y16 y17))
  | 0 => ⟨fun _ _ _ _ _ _ _ _ _ _ _ r h => by simp [wigwaglaw11_HystartFew.j0] at h, fun _ _ _ _ _ _ _ _ _ _ _ _ _ _ _ _ _ _ r h => by simp [wigwaglaw11_HystartFew.l0] at h, fun _ _ _ _ _ _ _ _ _ _ _ _ _ _ _ _ _ _ _ r h => by simp [wigwaglaw11_HystartFew.j2] at h, fun _ _ _ _ _ _ _ _ _ _ _ _ _ _ _ _ _ _ r h => by simp [wigwaglaw11_HystartFew.l1] at h⟩
  | k + 1 => by
    obtain ⟨ih0, ih1, ih2, ih3⟩ := wigwaglaw11_HystartFew.mono_l k
    refine ⟨?_, ?_, ?_, ?_⟩
    · intro y0 y1 y2 y3 y4 y5 y6 y7 y8 y9 y10
      unfold wigwaglaw11_HystartFew.j0
      repeat' first
      | (with_reducible exact ih0 _ _ _ _ _ _ _ _ _ _ _)
      | (with_reducible exact ih1 _ _ _ _ _ _ _ _ _ _ _ _ _ _ _ _ _ _)
      | (with_reducible exact ih2 _ _ _ _ _ _ _ _ _ _ _ _ _ _ _ _ _ _ _)
      | (with_reducible exact ih3 _ _ _ _ _ _ _ _ _ _ _ _ _ _ _ _ _ _)
      | (with_reducible exact hystart_Sample.mono _ _ _ _ _ _ _ _ _ _ _)
      | (with_reducible exact wigwaglaw11_awake.mono _)
      | (with_reducible exact LeO.refl _)
      | (with_reducible exact LeO.none _)
      | (with_reducible refine LeO.ite ?_ ?_)
      | (with_reducible refine LeO.bind ?_ (fun _ => ?_))
      | exact ih0 _ _ _ _ _ _ _ _ _ _ _
      | exact ih1 _ _ _ _ _ _ _ _ _ _ _ _ _ _ _ _ _ _
      | exact ih2 _ _ _ _ _ _ _ _ _ _ _ _ _ _ _ _ _ _ _
      | exact ih3 _ _ _ _ _ _ _ _ _ _ _ _ _ _ _ _ _ _
      | exact hystart_Sample.mono _ _ _ _ _ _ _ _ _ _ _
      | exact wigwaglaw11_awake.mono _
      | exact LeO.none _
      | refine LeO.ite ?_ ?_
      | refine LeO.bind ?_ (fun _ => ?_)
    · intro y0 y1 y2 y3 y4 y5 y6 y7 y8 y9 y10 y11 y12 y13 y14 y15 y16 y17
      unfold wigwaglaw11_HystartFew.l0
      repeat' first
      | (with_reducible exact ih0 _ _ _ _ _ _ _ _ _ _ _)
      | (with_reducible exact ih1 _ _ _ _ _ _ _ _ _ _ _ _ _ _ _ _ _ _)
      | (with_reducible exact ih2 _ _ _ _ _ _ _ _ _ _ _ _ _ _ _ _ _ _ _)
      | (with_reducible exact ih3 _ _ _ _ _ _ _ _ _ _ _ _ _ _ _ _ _ _)
      | (with_reducible exact hystart_Sample.mono _ _ _ _ _ _ _ _ _ _ _)
      | (with_reducible exact wigwaglaw11_awake.mono _)
      | (with_reducible exact LeO.refl _)
      | (with_reducible exact LeO.none _)
      | (with_reducible refine LeO.ite ?_ ?_)
      | (with_reducible refine LeO.bind ?_ (fun _ => ?_))
      | exact ih0 _ _ _ _ _ _ _ _ _ _ _
      | exact ih1 _ _ _ _ _ _ _ _ _ _ _ _ _ _ _ _ _ _
      | exact ih2 _ _ _ _ _ _ _ _ _ _ _ _ _ _ _ _ _ _ _
      | exact ih3 _ _ _ _ _ _ _ _ _ _ _ _ _ _ _ _ _ _
      | exact hystart_Sample.mono _ _ _ _ _ _ _ _ _ _ _
      | exact wigwaglaw11_awake.mono _
      | exact LeO.none _
      | refine LeO.ite ?_ ?_
      | refine LeO.bind ?_ (fun _ => ?_)
    · intro y0 y1 y2 y3 y4 y5 y6 y7 y8 y9 y10 y11 y12 y13 y14 y15 y16 y17 y18
      unfold wigwaglaw11_HystartFew.j2
      repeat' first
      | (with_reducible exact ih0 _ _ _ _ _ _ _ _ _ _ _)
      | (with_reducible exact ih1 _ _ _ _ _ _ _ _ _ _ _ _ _ _ _ _ _ _)
      | (with_reducible exact ih2 _ _ _ _ _ _ _ _ _ _ _ _ _ _ _ _ _ _ _)
      | (with_reducible exact ih3 _ _ _ _ _ _ _ _ _ _ _ _ _ _ _ _ _ _)
      | (with_reducible exact hystart_Sample.mono _ _ _ _ _ _ _ _ _ _ _)
      | (with_reducible exact wigwaglaw11_awake.mono _)
      | (with_reducible exact LeO.refl _)
      | (with_reducible exact LeO.none _)
      | (with_reducible refine LeO.ite ?_ ?_)
      | (with_reducible refine LeO.bind ?_ (fun _ => ?_))
      | exact ih0 _ _ _ _ _ _ _ _ _ _ _
      | exact ih1 _ _ _ _ _ _ _ _ _ _ _ _ _ _ _ _ _ _
      | exact ih2 _ _ _ _ _ _ _ _ _ _ _ _ _ _ _ _ _ _ _
      | exact ih3 _ _ _ _ _ _ _ _ _ _ _ _ _ _ _ _ _ _
      | exact hystart_Sample.mono _ _ _ _ _ _ _ _ _ _ _
      | exact wigwaglaw11_awake.mono _
      | exact LeO.none _
      | refine LeO.ite ?_ ?_
      | refine LeO.bind ?_ (fun _ => ?_)
    · intro y0 y1 y2 y3 y4 y5 y6 y7 y8 y9 y10 y11 y12 y13 y14 y15 y16 y17
      unfold wigwaglaw11_HystartFew.l1
      repeat' first
      | (with_reducible exact ih0 _ _ _ _ _ _ _ _ _ _ _)
      | (with_reducible exact ih1 _ _ _ _ _ _ _ _ _ _ _ _ _ _ _ _ _ _)
      | (with_reducible exact ih2 _ _ _ _ _ _ _ _ _ _ _ _ _ _ _ _ _ _ _)
      | (with_reducible exact ih3 _ _ _ _ _ _ _ _ _ _ _ _ _ _ _ _ _ _)
      | (with_reducible exact hystart_Sample.mono _ _ _ _ _ _ _ _ _ _ _)
      | (with_reducible exact wigwaglaw11_awake.mono _)
      | (with_reducible exact LeO.refl _)
      | (with_reducible exact LeO.none _)
      | (with_reducible refine LeO.ite ?_ ?_)
      | (with_reducible refine LeO.bind ?_ (fun _ => ?_))
      | exact ih0 _ _ _ _ _ _ _ _ _ _ _
      | exact ih1 _ _ _ _ _ _ _ _ _ _ _ _ _ _ _ _ _ _
      | exact ih2 _ _ _ _ _ _ _ _ _ _ _ _ _ _ _ _ _ _ _
      | exact ih3 _ _ _ _ _ _ _ _ _ _ _ _ _ _ _ _ _ _
      | exact hystart_Sample.mono _ _ _ _ _ _ _ _ _ _ _
      | exact wigwaglaw11_awake.mono _
      | exact LeO.none _
      | refine LeO.ite ?_ ?_
      | refine LeO.bind ?_ (fun _ => ?_)
theorem wigwaglaw11_HystartFew.mono : ∀ a0 a1 a2 a3 a4 a5 a6 a7 a8 k, LeO (wigwaglaw11_HystartFew.f k a0 a1 a2 a3 a4 a5 a6 a7 a8) (wigwaglaw11_HystartFew.f (k + 1) a0 a1 a2 a3 a4 a5 a6 a7 a8) := by
  intro a0 a1 a2 a3 a4 a5 a6 a7 a8 k
  obtain ⟨ih0, ih1, ih2, ih3⟩ := wigwaglaw11_HystartFew.mono_l k
  unfold wigwaglaw11_HystartFew.f
  repeat' first
      | (with_reducible exact ih0 _ _ _ _ _ _ _ _ _ _ _)
      | (with_reducible exact ih1 _ _ _ _ _ _ _ _ _ _ _ _ _ _ _ _ _ _)
      | (with_reducible exact ih2 _ _ _ _ _ _ _ _ _ _ _ _ _ _ _ _ _ _ _)
      | (with_reducible exact ih3 _ _ _ _ _ _ _ _ _ _ _ _ _ _ _ _ _ _)
      | (with_reducible exact hystart_Sample.mono _ _ _ _ _ _ _ _ _ _ _)
      | (with_reducible exact wigwaglaw11_awake.mono _)
      | (with_reducible exact LeO.refl _)
      | (with_reducible exact LeO.none _)
      | (with_reducible refine LeO.ite ?_ ?_)
      | (with_reducible refine LeO.bind ?_ (fun _ => ?_))
      | exact ih0 _ _ _ _ _ _ _ _ _ _ _
      | exact ih1 _ _ _ _ _ _ _ _ _ _ _ _ _ _ _ _ _ _
      | exact ih2 _ _ _ _ _ _ _ _ _ _ _ _ _ _ _ _ _ _ _
      | exact ih3 _ _ _ _ _ _ _ _ _ _ _ _ _ _ _ _ _ _
      | exact hystart_Sample.mono _ _ _ _ _ _ _ _ _ _ _
      | exact wigwaglaw11_awake.mono _
      | exact LeO.none _
      | refine LeO.ite ?_ ?_
      | refine LeO.bind ?_ (fun _ => ?_)
def wigwaglaw11_HystartFew.T9 : Bool × List (List Nat × List Nat) := (true, [([], []), ([], []), ([1], [1]), ([2], [2]), ([], []), ([], []), ([], []), ([5, 6], [5, 6]), ([7], [7]), ([0, 3, 4, 8], [0, 3, 4, 8]), ([9, 9, 0, 1, 2, 3, 4, 5, 6, 7, 8, 9], [9])])
def wigwaglaw11_HystartFew.B9 : List Nat := [0, 0, 2, 6, 0, 0, 0, 96, 224, 511, 1023]
theorem wigwaglaw11_HystartFew.tab9 : rtab .any (opsOf Try.f6 9) = wigwaglaw11_HystartFew.T9 := by kernel_rfl
theorem wigwaglaw11_HystartFew.bits9 : waitsOk wigwaglaw11_HystartFew.T9.2 wigwaglaw11_HystartFew.B9 = true := by kernel_rfl
set_option maxHeartbeats 8000000 in
set_option maxRecDepth 100000 in
theorem wigwaglaw11_HystartFew.calls (k : Nat) (a0_0 : Int) (a0_1 : Int) (a0_2 : Int) (a0_3 : Int) (a0_4 : Int) (a0_5 : Int) (a0_6 : Int) (a1 : Int) (A2 : Option Addr) (c2 : Nat) (l2 : List Int) (r : Bool) (w : World) (hr2 : Kd.C (Kd.int .u64) w A2 l2.length l2) (hc2 : l2.length ≤ c2) (h : wigwaglaw11_HystartFew.f k a0_0 a0_1 a0_2 a0_3 a0_4 a0_5 a0_6 a1 l2 = some r) :
    Calls Try.prog 6 #[.agg #[.int .i64 a0_0, .int .u64 a0_1, .int .u64 a0_2, .int .u64 a0_3, .int .u64 a0_4, .int .u64 a0_5, .int .u64 a0_6], .int .u64 a1, .slice A2 l2.length c2] w fun e w' => e = .returned (.bool r) ∧ Below w.heap.size w w' := by
  have hu25 := Try.underlying25
  have HR2 := Aside0.mk hr2
  have HC2 := Aside0.mk hc2
  clear hr2 hc2
  have HB := Aside0.mk (Below.refl w.heap.size w)
  have H : ((wigwaglaw11_awake.f k).bind fun t168 => (if a0_0 = 0 then (wigwaglaw11_HystartFew.j0 k a1 l2 t168 (a0_1 == 0) a0_0 a0_1 a0_2 a0_3 a0_4 a0_5 a0_6) else (if a0_0 = 1 then (wigwaglaw11_HystartFew.j0 k a1 l2 t168 (a0_1 == 0) a0_0 a0_1 a0_2 a0_3 a0_4 a0_5 a0_6) else (wigwaglaw11_HystartFew.j0 k a1 l2 t168 true a0_0 a0_1 a0_2 a0_3 a0_4 a0_5 a0_6)))) = some r := h
  clear h
  replace H := Option.bind_eq_some_iff.mp H
  obtain ⟨t168, A40, H⟩ := H
  replace H : (if a0_0 = 0 then (wigwaglaw11_HystartFew.j0 k a1 l2 t168 (a0_1 == 0) a0_0 a0_1 a0_2 a0_3 a0_4 a0_5 a0_6) else (if a0_0 = 1 then (wigwaglaw11_HystartFew.j0 k a1 l2 t168 (a0_1 == 0) a0_0 a0_1 a0_2 a0_3 a0_4 a0_5 a0_6) else (wigwaglaw11_HystartFew.j0 k a1 l2 t168 true a0_0 a0_1 a0_2 a0_3 a0_4 a0_5 a0_6))) = some r := H
  have A4 := Aside0.mk A40
  clear A40
  have HC5 := Aside0.mk H
  clear H
  go_enter Try.func6, Try.ntmps6
  go_upto_region 2 with (first | ((with_reducible refine gate_dst (N := 3) rfl ?_); refine box_event ?hg (N := 3) ?hd (cs := #[.int .i64 a0_0, .int .u64 a0_1, .int .u64 a0_2, .int .u64 a0_3, .int .u64 a0_4, .int .u64 a0_5, .int .u64 a0_6]) (t := 25) ?hr ?_; (case hd => rfl); (case hg => rfl); (case hr => first | (go_simp; done) | (go_simp; rfl)); intro gb167 hg w6 hbox hb; have n0_ := Aside0.mk (below_step (by repeat (first | (with_reducible first | exact HB.out | apply below_alloc | apply pw_below_drewN | apply below_drew1) | exact HB.out)) hb); have n1_ := Aside0.mk (hbox); have n2_ := Aside0.mk ((by rw [hg]; exact (below_size (by repeat (first | (with_reducible first | exact HB.out | apply below_alloc | apply pw_below_drewN | apply below_drew1) | exact HB.out))) : w.heap.size ≤ gb167)); have n3_ := Aside0.mk ((by rw [hg]; exact (below_size (by repeat (first | (with_reducible first | exact HB.out | apply below_alloc | apply pw_below_drewN | apply below_drew1) | exact HB.out))) : w.heap.size ≤ gb167)); clear HB; have HB := n0_; have BK167 := n1_; have GW167 := n2_; have GE167 := n3_; clear n0_ n1_ n2_ n3_; clear hb hbox hg) | ((with_reducible refine gate_callee (f := 9) rfl ?_); refine goesL_ (some 12) rfl rfl Try.func9 (by kernel_rfl) rfl #[] rfl (by (try simp only [List.map_toArray, List.map_cons, List.map_nil]); first | done | rfl | (simp only [List.length_drop, List.length_take]; rfl)) ?_; (with_reducible refine (wigwaglaw11_awake.calls k  t168 _ A4.out).mono ?_); rintro e w7 ⟨rfl, hb⟩; refine ⟨_, rfl, ?_⟩; have n0_ := Aside0.mk (blk_below (g := gb167) (o := .cells #[.int .i64 a0_0, .int .u64 a0_1, .int .u64 a0_2, .int .u64 a0_3, .int .u64 a0_4, .int .u64 a0_5, .int .u64 a0_6] 25 (0, 0)) (by (with_reducible repeat (first | refine blk_drewN ?_ _ | refine blk_drew ?_ | refine blk_alloc ?_ _)); exact BK167.out) hb); have n1_ := Aside0.mk (below_step (by repeat (first | (with_reducible first | exact HB.out | apply below_alloc | apply pw_below_drewN | apply below_drew1 | refine below_set ?_ GE167.out) | exact HB.out)) hb); clear BK167; clear HB; have BK167 := n0_; have HB := n1_; clear n0_ n1_; (try clear hb); (try clear hb2); (try clear hk); (try clear hi)))
  (try simp only [Act.put, List.setIfInBounds_toArray, List.set_cons_zero, List.set_cons_succ])
  go_cut [25] (fun v25 wc => ∃ (kq : Nat) (x25_4 : Bool), v25 = .bool x25_4 ∧ Aside0 (wigwaglaw11_HystartFew.j0 kq a1 l2 t168 x25_4 a0_0 a0_1 a0_2 a0_3 a0_4 a0_5 a0_6 = some r) ∧ Aside0 (kq ≤ k) ∧ Aside0 (wc.heap[gb167]? = some (.cells #[.int .i64 a0_0, .int .u64 a0_1, .int .u64 a0_2, .int .u64 a0_3, .int .u64 a0_4, .int .u64 a0_5, .int .u64 a0_6] 25 (0, 0))) ∧ Aside0 (Below w.heap.size w wc))
  case first =>
    have H := HC5.out
    clear HC5
    by_cases c8 : a0_0 = 0
    · rw [if_pos c8] at H
      have c8b0 : (a0_0 == 0) = true := beq_iff_eq.mpr c8
      have c8b1 : (a0_0 != 0) = false := bne_eq_false_iff_eq.mpr c8
      clear c8
      (first | rw [c8b0] | (simp only [i64_w, i32_w]; rw [c8b0]) | skip)
      have H' := Aside0.mk H
      clear H
      have hcz9_0 : w7.cell? ⟨gb167, 0, none⟩ = some (.int .i64 a0_0) := (blk_cell BK167.out 0).trans rfl
      have hcz9_1 : w7.cell? ⟨gb167, 1, none⟩ = some (.int .u64 a0_1) := (blk_cell BK167.out 1).trans rfl
      have hcz9_2 : w7.cell? ⟨gb167, 2, none⟩ = some (.int .u64 a0_2) := (blk_cell BK167.out 2).trans rfl
      have hcz9_3 : w7.cell? ⟨gb167, 3, none⟩ = some (.int .u64 a0_3) := (blk_cell BK167.out 3).trans rfl
      have hcz9_4 : w7.cell? ⟨gb167, 4, none⟩ = some (.int .u64 a0_4) := (blk_cell BK167.out 4).trans rfl
      have hcz9_5 : w7.cell? ⟨gb167, 5, none⟩ = some (.int .u64 a0_5) := (blk_cell BK167.out 5).trans rfl
      have hcz9_6 : w7.cell? ⟨gb167, 6, none⟩ = some (.int .u64 a0_6) := (blk_cell BK167.out 6).trans rfl
      have hfz9_0 := blk_frozen BK167.out 0
      have hfz9_1 := blk_frozen BK167.out 1
      have hfz9_2 := blk_frozen BK167.out 2
      have hfz9_3 := blk_frozen BK167.out 3
      have hfz9_4 := blk_frozen BK167.out 4
      have hfz9_5 := blk_frozen BK167.out 5
      have hfz9_6 := blk_frozen BK167.out 6
      go_wp2
      go_meet
      case rel => exact ⟨_, ((a0_1 == 0)), (by first | rfl | (simp; done) | (simp [*]; done)), H', ⟨by first | omega | exact Nat.le_refl _⟩, ⟨by (with_reducible repeat (first | refine blk_drewN ?_ _ | refine blk_drew ?_ | refine blk_alloc ?_ _)); exact BK167.out⟩, ⟨by repeat (first | (with_reducible first | exact HB.out | apply below_alloc | apply pw_below_drewN | apply below_drew1 | refine below_set ?_ GE167.out) | exact HB.out)⟩⟩
    · rw [if_neg c8] at H
      have c8b0 : (a0_0 == 0) = false := beq_eq_false_iff_ne.mpr c8
      have c8b1 : (a0_0 != 0) = true := bne_iff_ne.mpr c8
      (first | rw [c8b0] | (simp only [i64_w, i32_w]; rw [c8b0]) | skip)
      by_cases c10 : a0_0 = 1
      · rw [if_pos c10] at H
        have c10b0 : (a0_0 == 1) = true := beq_iff_eq.mpr c10
        have c10b1 : (a0_0 != 1) = false := bne_eq_false_iff_eq.mpr c10
        clear c10
        have H' := Aside0.mk H
        clear H
        have hcz11_0 : w7.cell? ⟨gb167, 0, none⟩ = some (.int .i64 a0_0) := (blk_cell BK167.out 0).trans rfl
        have hcz11_1 : w7.cell? ⟨gb167, 1, none⟩ = some (.int .u64 a0_1) := (blk_cell BK167.out 1).trans rfl
        have hcz11_2 : w7.cell? ⟨gb167, 2, none⟩ = some (.int .u64 a0_2) := (blk_cell BK167.out 2).trans rfl
        have hcz11_3 : w7.cell? ⟨gb167, 3, none⟩ = some (.int .u64 a0_3) := (blk_cell BK167.out 3).trans rfl
        have hcz11_4 : w7.cell? ⟨gb167, 4, none⟩ = some (.int .u64 a0_4) := (blk_cell BK167.out 4).trans rfl
        have hcz11_5 : w7.cell? ⟨gb167, 5, none⟩ = some (.int .u64 a0_5) := (blk_cell BK167.out 5).trans rfl
        have hcz11_6 : w7.cell? ⟨gb167, 6, none⟩ = some (.int .u64 a0_6) := (blk_cell BK167.out 6).trans rfl
        have hfz11_0 := blk_frozen BK167.out 0
        have hfz11_1 := blk_frozen BK167.out 1
        have hfz11_2 := blk_frozen BK167.out 2
        have hfz11_3 := blk_frozen BK167.out 3
        have hfz11_4 := blk_frozen BK167.out 4
        have hfz11_5 := blk_frozen BK167.out 5
        have hfz11_6 := blk_frozen BK167.out 6
        go_wp2
        go_meet
        case rel => exact ⟨_, ((a0_1 == 0)), (by first | rfl | (simp; done) | (simp [*]; done)), H', ⟨by first | omega | exact Nat.le_refl _⟩, ⟨by (with_reducible repeat (first | refine blk_drewN ?_ _ | refine blk_drew ?_ | refine blk_alloc ?_ _)); exact BK167.out⟩, ⟨by repeat (first | (with_reducible first | exact HB.out | apply below_alloc | apply pw_below_drewN | apply below_drew1 | refine below_set ?_ GE167.out) | exact HB.out)⟩⟩
      · rw [if_neg c10] at H
        have c10b0 : (a0_0 == 1) = false := beq_eq_false_iff_ne.mpr c10
        have c10b1 : (a0_0 != 1) = true := bne_iff_ne.mpr c10
        have H' := Aside0.mk H
        clear H
        have hcz12_0 : w7.cell? ⟨gb167, 0, none⟩ = some (.int .i64 a0_0) := (blk_cell BK167.out 0).trans rfl
        have hcz12_1 : w7.cell? ⟨gb167, 1, none⟩ = some (.int .u64 a0_1) := (blk_cell BK167.out 1).trans rfl
        have hcz12_2 : w7.cell? ⟨gb167, 2, none⟩ = some (.int .u64 a0_2) := (blk_cell BK167.out 2).trans rfl
        have hcz12_3 : w7.cell? ⟨gb167, 3, none⟩ = some (.int .u64 a0_3) := (blk_cell BK167.out 3).trans rfl
        have hcz12_4 : w7.cell? ⟨gb167, 4, none⟩ = some (.int .u64 a0_4) := (blk_cell BK167.out 4).trans rfl
        have hcz12_5 : w7.cell? ⟨gb167, 5, none⟩ = some (.int .u64 a0_5) := (blk_cell BK167.out 5).trans rfl
        have hcz12_6 : w7.cell? ⟨gb167, 6, none⟩ = some (.int .u64 a0_6) := (blk_cell BK167.out 6).trans rfl
        have hfz12_0 := blk_frozen BK167.out 0
        have hfz12_1 := blk_frozen BK167.out 1
        have hfz12_2 := blk_frozen BK167.out 2
        have hfz12_3 := blk_frozen BK167.out 3
        have hfz12_4 := blk_frozen BK167.out 4
        have hfz12_5 := blk_frozen BK167.out 5
        have hfz12_6 := blk_frozen BK167.out 6
        go_wp2
        go_meet
        case rel => exact ⟨_, (true), (by first | rfl | (simp; done) | (simp [*]; done)), H', ⟨by first | omega | exact Nat.le_refl _⟩, ⟨by (with_reducible repeat (first | refine blk_drewN ?_ _ | refine blk_drew ?_ | refine blk_alloc ?_ _)); exact BK167.out⟩, ⟨by repeat (first | (with_reducible first | exact HB.out | apply below_alloc | apply pw_below_drewN | apply below_drew1 | refine below_set ?_ GE167.out) | exact HB.out)⟩⟩
  case rest =>
    clear HC5
    try clear c1
    try clear c2
    try clear p2
    try clear c6
    try clear c8
    try clear c8b0
    try clear c8b1
    try clear c9
    try clear c10
    try clear c10b0
    try clear c10b1
    try clear hcz11_0
    try clear hcz11_1
    try clear hcz11_2
    try clear hcz11_3
    try clear hcz11_4
    try clear hcz11_5
    try clear hcz11_6
    try clear hcz12_0
    try clear hcz12_1
    try clear hcz12_2
    try clear hcz12_3
    try clear hcz12_4
    try clear hcz12_5
    try clear hcz12_6
    try clear hcz9_0
    try clear hcz9_1
    try clear hcz9_2
    try clear hcz9_3
    try clear hcz9_4
    try clear hcz9_5
    try clear hcz9_6
    try clear hfz11_0
    try clear hfz11_1
    try clear hfz11_2
    try clear hfz11_3
    try clear hfz11_4
    try clear hfz11_5
    try clear hfz11_6
    try clear hfz12_0
    try clear hfz12_1
    try clear hfz12_2
    try clear hfz12_3
    try clear hfz12_4
    try clear hfz12_5
    try clear hfz12_6
    try clear hfz9_0
    try clear hfz9_1
    try clear hfz9_2
    try clear hfz9_3
    try clear hfz9_4
    try clear hfz9_5
    try clear hfz9_6
    obtain ⟨kq, x25_4, rfl, HA, HJ4, BK167, HB⟩ := hcut
    cases kq with
    | zero => exact absurd HA.out (by simp [wigwaglaw11_HystartFew.j0])
    | succ kj4 =>
      have H := HA.out
      clear HA
      simp only [wigwaglaw11_HystartFew.j0] at H
      by_cases c13 : x25_4 = true
      · subst c13
        have H1 : (some t168) = some r := by rw [if_pos rfl] at H; exact H
        clear H
        have H := H1
        clear H1
        obtain rfl := Option.some.inj H
        go_wp2
        go_ret
        exact ⟨by first | rfl | (simp [errW_none, errW_some] <;> rfl) | (simp [*, errW_none, errW_some] <;> rfl), by repeat (first | (with_reducible first | exact HB.out | apply below_alloc | apply pw_below_drewN | apply below_drew1 | refine below_set ?_ GE167.out) | exact HB.out)⟩
      · replace c13 := Bool.eq_false_iff.mpr c13
        subst c13
        have H1 : (wigwaglaw11_HystartFew.l0 kj4 a1 l2 t168 0 a0_0 a0_1 a0_2 a0_3 0 a0_5 a0_6 a0_0 a0_1 a0_2 a0_3 0 a0_5 a0_6) = some r := by rw [if_neg (show ¬ (false = true) by decide)] at H; exact H
        clear H
        have H := H1
        clear H1
        have H' := Aside0.mk H
        clear H
        have hcz14_0 : wc.cell? ⟨gb167, 0, none⟩ = some (.int .i64 a0_0) := (blk_cell BK167.out 0).trans rfl
        have hcz14_1 : wc.cell? ⟨gb167, 1, none⟩ = some (.int .u64 a0_1) := (blk_cell BK167.out 1).trans rfl
        have hcz14_2 : wc.cell? ⟨gb167, 2, none⟩ = some (.int .u64 a0_2) := (blk_cell BK167.out 2).trans rfl
        have hcz14_3 : wc.cell? ⟨gb167, 3, none⟩ = some (.int .u64 a0_3) := (blk_cell BK167.out 3).trans rfl
        have hcz14_4 : wc.cell? ⟨gb167, 4, none⟩ = some (.int .u64 a0_4) := (blk_cell BK167.out 4).trans rfl
        have hcz14_5 : wc.cell? ⟨gb167, 5, none⟩ = some (.int .u64 a0_5) := (blk_cell BK167.out 5).trans rfl
        have hcz14_6 : wc.cell? ⟨gb167, 6, none⟩ = some (.int .u64 a0_6) := (blk_cell BK167.out 6).trans rfl
        have hfz14_0 := blk_frozen BK167.out 0
        have hfz14_1 := blk_frozen BK167.out 1
        have hfz14_2 := blk_frozen BK167.out 2
        have hfz14_3 := blk_frozen BK167.out 3
        have hfz14_4 := blk_frozen BK167.out 4
        have hfz14_5 := blk_frozen BK167.out 5
        have hfz14_6 := blk_frozen BK167.out 6
        go_wp2_with (first | ((with_reducible refine gate_dst (N := 8) rfl ?_); refine box_event ?hg (N := 8) ?hd (cs := #[.int .i64 0, .int .u64 0, .int .u64 0, .int .u64 0, .int .u64 0, .int .u64 0, .int .u64 0]) (t := 25) ?hr ?_; (case hd => rfl); (case hg => rfl); (case hr => first | (go_simp; done) | (go_simp; rfl)); intro gb169 hg w15 hbox hb; have n0_ := Aside0.mk (blk_below (g := gb167) (o := .cells #[.int .i64 a0_0, .int .u64 a0_1, .int .u64 a0_2, .int .u64 a0_3, .int .u64 0, .int .u64 a0_5, .int .u64 a0_6] 25 (0, 0)) (by (with_reducible repeat (first | refine blk_drewN ?_ _ | refine blk_drew ?_ | refine blk_alloc ?_ _)); refine blk_put (cs := #[.int .i64 a0_0, .int .u64 a0_1, .int .u64 a0_2, .int .u64 a0_3, .int .u64 a0_4, .int .u64 a0_5, .int .u64 a0_6]) ?_ 4 _ rfl; (with_reducible repeat (first | refine blk_drewN ?_ _ | refine blk_drew ?_ | refine blk_alloc ?_ _)); exact BK167.out) hb); have n1_ := Aside0.mk (below_step (by repeat (first | (with_reducible first | exact HB.out | apply below_alloc | apply pw_below_drewN | apply below_drew1 | refine below_set ?_ GE167.out) | exact HB.out)) hb); have n2_ := Aside0.mk (hbox); have n3_ := Aside0.mk ((by rw [hg]; exact (below_size (by repeat (first | (with_reducible first | exact HB.out | apply below_alloc | apply pw_below_drewN | apply below_drew1 | refine below_set ?_ GE167.out) | exact HB.out))) : w.heap.size ≤ gb169)); have n4_ := Aside0.mk ((by rw [hg]; exact (below_size (by repeat (first | (with_reducible first | exact HB.out | apply below_alloc | apply pw_below_drewN | apply below_drew1 | refine below_set ?_ GE167.out) | exact HB.out))) : w.heap.size ≤ gb169)); have n5_ := Aside0.mk ((by rw [hg]; exact Nat.ne_of_lt (blk_lt (g := gb167) (o := .cells #[.int .i64 a0_0, .int .u64 a0_1, .int .u64 a0_2, .int .u64 a0_3, .int .u64 0, .int .u64 a0_5, .int .u64 a0_6] 25 (0, 0)) (by (with_reducible repeat (first | refine blk_drewN ?_ _ | refine blk_drew ?_ | refine blk_alloc ?_ _)); refine blk_put (cs := #[.int .i64 a0_0, .int .u64 a0_1, .int .u64 a0_2, .int .u64 a0_3, .int .u64 a0_4, .int .u64 a0_5, .int .u64 a0_6]) ?_ 4 _ rfl; (with_reducible repeat (first | refine blk_drewN ?_ _ | refine blk_drew ?_ | refine blk_alloc ?_ _)); exact BK167.out)) : gb167 ≠ gb169)); have n6_ := Aside0.mk ((by rw [hg]; exact Nat.ne_of_gt (blk_lt (g := gb167) (o := .cells #[.int .i64 a0_0, .int .u64 a0_1, .int .u64 a0_2, .int .u64 a0_3, .int .u64 0, .int .u64 a0_5, .int .u64 a0_6] 25 (0, 0)) (by (with_reducible repeat (first | refine blk_drewN ?_ _ | refine blk_drew ?_ | refine blk_alloc ?_ _)); refine blk_put (cs := #[.int .i64 a0_0, .int .u64 a0_1, .int .u64 a0_2, .int .u64 a0_3, .int .u64 a0_4, .int .u64 a0_5, .int .u64 a0_6]) ?_ 4 _ rfl; (with_reducible repeat (first | refine blk_drewN ?_ _ | refine blk_drew ?_ | refine blk_alloc ?_ _)); exact BK167.out)) : gb169 ≠ gb167)); clear BK167; clear HB; have BK167 := n0_; have HB := n1_; have BK169 := n2_; have GW169 := n3_; have GE169 := n4_; have NB167_169 := n5_; have NB169_167 := n6_; clear n0_ n1_ n2_ n3_ n4_ n5_ n6_; clear hb hbox hg; have hnb16 := NB169_167.out; have hnc16 := NB167_169.out; have hcz17_0 : w15.cell? ⟨gb169, 0, none⟩ = some (.int .i64 0) := (blk_cell BK169.out 0).trans rfl; have hcz17_1 : w15.cell? ⟨gb169, 1, none⟩ = some (.int .u64 0) := (blk_cell BK169.out 1).trans rfl; have hcz17_2 : w15.cell? ⟨gb169, 2, none⟩ = some (.int .u64 0) := (blk_cell BK169.out 2).trans rfl; have hcz17_3 : w15.cell? ⟨gb169, 3, none⟩ = some (.int .u64 0) := (blk_cell BK169.out 3).trans rfl; have hcz17_4 : w15.cell? ⟨gb169, 4, none⟩ = some (.int .u64 0) := (blk_cell BK169.out 4).trans rfl; have hcz17_5 : w15.cell? ⟨gb169, 5, none⟩ = some (.int .u64 0) := (blk_cell BK169.out 5).trans rfl; have hcz17_6 : w15.cell? ⟨gb169, 6, none⟩ = some (.int .u64 0) := (blk_cell BK169.out 6).trans rfl; have hfz17_0 := blk_frozen BK169.out 0; have hfz17_1 := blk_frozen BK169.out 1; have hfz17_2 := blk_frozen BK169.out 2; have hfz17_3 := blk_frozen BK169.out 3; have hfz17_4 := blk_frozen BK169.out 4; have hfz17_5 := blk_frozen BK169.out 5; have hfz17_6 := blk_frozen BK169.out 6))
        go_loopg [9] kj4 (fun kq v9 w' => ∃ (x9_2 : Int) (x170000_2 : Int) (x170001_2 : Int) (x170002_2 : Int) (x170003_2 : Int) (x170004_2 : Int) (x170005_2 : Int) (x170006_2 : Int), v9 = .int .i64 x9_2 ∧ Aside0 (wigwaglaw11_HystartFew.l0 kq a1 l2 t168 x9_2 a0_0 a0_1 a0_2 a0_3 0 a0_5 a0_6 x170000_2 x170001_2 x170002_2 x170003_2 x170004_2 x170005_2 x170006_2 = some r) ∧ Aside0 (kq ≤ kj4) ∧ Aside0 (w'.heap[gb167]? = some (.cells #[.int .i64 a0_0, .int .u64 a0_1, .int .u64 a0_2, .int .u64 a0_3, .int .u64 0, .int .u64 a0_5, .int .u64 a0_6] 25 (0, 0))) ∧ Aside0 (w'.heap[gb169]? = some (.cells #[.int .i64 x170000_2, .int .u64 x170001_2, .int .u64 x170002_2, .int .u64 x170003_2, .int .u64 x170004_2, .int .u64 x170005_2, .int .u64 x170006_2] 25 (0, 0))) ∧ Aside0 (Below w.heap.size w w'))
        case atStart => exact ⟨(0), (a0_0), (a0_1), (a0_2), (a0_3), (0), (a0_5), (a0_6), (by first | rfl | (simp; done) | (simp [*]; done)), H', ⟨Nat.le_refl _⟩, ⟨by (with_reducible repeat (first | refine blk_drewN ?_ _ | refine blk_drew ?_ | refine blk_alloc ?_ _)); refine blk_far ?_ NB167_169.out _; (with_reducible repeat (first | refine blk_drewN ?_ _ | refine blk_drew ?_ | refine blk_alloc ?_ _)); refine blk_far ?_ NB167_169.out _; (with_reducible repeat (first | refine blk_drewN ?_ _ | refine blk_drew ?_ | refine blk_alloc ?_ _)); refine blk_far ?_ NB167_169.out _; (with_reducible repeat (first | refine blk_drewN ?_ _ | refine blk_drew ?_ | refine blk_alloc ?_ _)); refine blk_far ?_ NB167_169.out _; (with_reducible repeat (first | refine blk_drewN ?_ _ | refine blk_drew ?_ | refine blk_alloc ?_ _)); refine blk_far ?_ NB167_169.out _; (with_reducible repeat (first | refine blk_drewN ?_ _ | refine blk_drew ?_ | refine blk_alloc ?_ _)); refine blk_far ?_ NB167_169.out _; (with_reducible repeat (first | refine blk_drewN ?_ _ | refine blk_drew ?_ | refine blk_alloc ?_ _)); refine blk_far ?_ NB167_169.out _; (with_reducible repeat (first | refine blk_drewN ?_ _ | refine blk_drew ?_ | refine blk_alloc ?_ _)); exact BK167.out⟩, ⟨by (with_reducible repeat (first | refine blk_drewN ?_ _ | refine blk_drew ?_ | refine blk_alloc ?_ _)); refine blk_put (cs := #[.int .i64 a0_0, .int .u64 a0_1, .int .u64 a0_2, .int .u64 a0_3, .int .u64 0, .int .u64 a0_5, .int .u64 0]) ?_ 6 _ rfl; (with_reducible repeat (first | refine blk_drewN ?_ _ | refine blk_drew ?_ | refine blk_alloc ?_ _)); refine blk_put (cs := #[.int .i64 a0_0, .int .u64 a0_1, .int .u64 a0_2, .int .u64 a0_3, .int .u64 0, .int .u64 0, .int .u64 0]) ?_ 5 _ rfl; (with_reducible repeat (first | refine blk_drewN ?_ _ | refine blk_drew ?_ | refine blk_alloc ?_ _)); refine blk_put (cs := #[.int .i64 a0_0, .int .u64 a0_1, .int .u64 a0_2, .int .u64 a0_3, .int .u64 0, .int .u64 0, .int .u64 0]) ?_ 4 _ rfl; (with_reducible repeat (first | refine blk_drewN ?_ _ | refine blk_drew ?_ | refine blk_alloc ?_ _)); refine blk_put (cs := #[.int .i64 a0_0, .int .u64 a0_1, .int .u64 a0_2, .int .u64 0, .int .u64 0, .int .u64 0, .int .u64 0]) ?_ 3 _ rfl; (with_reducible repeat (first | refine blk_drewN ?_ _ | refine blk_drew ?_ | refine blk_alloc ?_ _)); refine blk_put (cs := #[.int .i64 a0_0, .int .u64 a0_1, .int .u64 0, .int .u64 0, .int .u64 0, .int .u64 0, .int .u64 0]) ?_ 2 _ rfl; (with_reducible repeat (first | refine blk_drewN ?_ _ | refine blk_drew ?_ | refine blk_alloc ?_ _)); refine blk_put (cs := #[.int .i64 a0_0, .int .u64 0, .int .u64 0, .int .u64 0, .int .u64 0, .int .u64 0, .int .u64 0]) ?_ 1 _ rfl; (with_reducible repeat (first | refine blk_drewN ?_ _ | refine blk_drew ?_ | refine blk_alloc ?_ _)); refine blk_put (cs := #[.int .i64 0, .int .u64 0, .int .u64 0, .int .u64 0, .int .u64 0, .int .u64 0, .int .u64 0]) ?_ 0 _ rfl; (with_reducible repeat (first | refine blk_drewN ?_ _ | refine blk_drew ?_ | refine blk_alloc ?_ _)); exact BK169.out⟩, ⟨by repeat (first | (with_reducible first | exact HB.out | apply below_alloc | apply pw_below_drewN | apply below_drew1 | refine below_set ?_ GE167.out | refine below_set ?_ GE169.out) | exact HB.out)⟩⟩
        case round =>
          clear H'
          try clear c1
          try clear c2
          try clear p2
          try clear c6
          try clear c8
          try clear c8b0
          try clear c8b1
          try clear c9
          try clear c10
          try clear c10b0
          try clear c10b1
          try clear c13
          try clear c16
          try clear hcz11_0
          try clear hcz11_1
          try clear hcz11_2
          try clear hcz11_3
          try clear hcz11_4
          try clear hcz11_5
          try clear hcz11_6
          try clear hcz12_0
          try clear hcz12_1
          try clear hcz12_2
          try clear hcz12_3
          try clear hcz12_4
          try clear hcz12_5
          try clear hcz12_6
          try clear hcz14_0
          try clear hcz14_1
          try clear hcz14_2
          try clear hcz14_3
          try clear hcz14_4
          try clear hcz14_5
          try clear hcz14_6
          try clear hcz17_0
          try clear hcz17_1
          try clear hcz17_2
          try clear hcz17_3
          try clear hcz17_4
          try clear hcz17_5
          try clear hcz17_6
          try clear hcz9_0
          try clear hcz9_1
          try clear hcz9_2
          try clear hcz9_3
          try clear hcz9_4
          try clear hcz9_5
          try clear hcz9_6
          try clear hfz11_0
          try clear hfz11_1
          try clear hfz11_2
          try clear hfz11_3
          try clear hfz11_4
          try clear hfz11_5
          try clear hfz11_6
          try clear hfz12_0
          try clear hfz12_1
          try clear hfz12_2
          try clear hfz12_3
          try clear hfz12_4
          try clear hfz12_5
          try clear hfz12_6
          try clear hfz14_0
          try clear hfz14_1
          try clear hfz14_2
          try clear hfz14_3
          try clear hfz14_4
          try clear hfz14_5
          try clear hfz14_6
          try clear hfz17_0
          try clear hfz17_1
          try clear hfz17_2
          try clear hfz17_3
          try clear hfz17_4
          try clear hfz17_5
          try clear hfz17_6
          try clear hfz9_0
          try clear hfz9_1
          try clear hfz9_2
          try clear hfz9_3
          try clear hfz9_4
          try clear hfz9_5
          try clear hfz9_6
          try clear p2
          obtain ⟨x9_2, x170000_2, x170001_2, x170002_2, x170003_2, x170004_2, x170005_2, x170006_2, rfl, HA, HK2, BK167, BK169, HB⟩ := hrel
          cases gk with
          | zero => exact absurd HA.out (by simp [wigwaglaw11_HystartFew.l0])
          | succ k2 =>
            have H := HA.out
            clear HA
            simp only [wigwaglaw11_HystartFew.l0] at H
            have HC18 := Aside0.mk H
            clear H
            go_upto_region 7 with (fail)
            go_cut [36] (fun v36 wc => ∃ (kq : Nat) (x36_17 : Bool), v36 = .bool x36_17 ∧ Aside0 (wigwaglaw11_HystartFew.j2 kq a1 l2 t168 x9_2 x36_17 a0_0 a0_1 a0_2 a0_3 0 a0_5 a0_6 x170000_2 x170001_2 x170002_2 x170003_2 x170004_2 x170005_2 x170006_2 = some r) ∧ Aside0 (kq ≤ k2) ∧ Aside0 (wc.heap[gb167]? = some (.cells #[.int .i64 a0_0, .int .u64 a0_1, .int .u64 a0_2, .int .u64 a0_3, .int .u64 0, .int .u64 a0_5, .int .u64 a0_6] 25 (0, 0))) ∧ Aside0 (wc.heap[gb169]? = some (.cells #[.int .i64 x170000_2, .int .u64 x170001_2, .int .u64 x170002_2, .int .u64 x170003_2, .int .u64 x170004_2, .int .u64 x170005_2, .int .u64 x170006_2] 25 (0, 0))) ∧ Aside0 (Below w.heap.size w wc))
            case first =>
              have H := HC18.out
              clear HC18
              by_cases c19 : x9_2 < (l2.length : Int)
              · rw [if_pos c19] at H
                have c19b0 : decide (x9_2 < (l2.length : Int)) = true := decide_eq_true c19
                clear c19
                (first | rw [c19b0] | (simp only [i64_w, i32_w]; rw [c19b0]) | skip)
                have H' := Aside0.mk H
                clear H
                go_wp2
                go_meet
                case rel => exact ⟨_, (decide (x9_2 < 7)), (by first | rfl | (simp; done) | (simp [*]; done)), H', ⟨by have := HJ4.out; have := HK2.out; first | omega | exact Nat.le_refl _⟩, ⟨by (with_reducible repeat (first | refine blk_drewN ?_ _ | refine blk_drew ?_ | refine blk_alloc ?_ _)); exact BK167.out⟩, ⟨by (with_reducible repeat (first | refine blk_drewN ?_ _ | refine blk_drew ?_ | refine blk_alloc ?_ _)); exact BK169.out⟩, ⟨by repeat (first | (with_reducible first | exact HB.out | apply below_alloc | apply pw_below_drewN | apply below_drew1 | refine below_set ?_ GE167.out | refine below_set ?_ GE169.out) | exact HB.out)⟩⟩
              · rw [if_neg c19] at H
                have c19b0 : decide (x9_2 < (l2.length : Int)) = false := decide_eq_false c19
                clear c19
                (first | rw [c19b0] | (simp only [i64_w, i32_w]; rw [c19b0]) | skip)
                have H' := Aside0.mk H
                clear H
                go_wp2
                go_meet
                case rel => exact ⟨_, (false), (by first | rfl | (simp; done) | (simp [*]; done)), H', ⟨by have := HJ4.out; have := HK2.out; first | omega | exact Nat.le_refl _⟩, ⟨by (with_reducible repeat (first | refine blk_drewN ?_ _ | refine blk_drew ?_ | refine blk_alloc ?_ _)); exact BK167.out⟩, ⟨by (with_reducible repeat (first | refine blk_drewN ?_ _ | refine blk_drew ?_ | refine blk_alloc ?_ _)); exact BK169.out⟩, ⟨by repeat (first | (with_reducible first | exact HB.out | apply below_alloc | apply pw_below_drewN | apply below_drew1 | refine below_set ?_ GE167.out | refine below_set ?_ GE169.out) | exact HB.out)⟩⟩
            case rest =>
              clear HC18
              try clear c1
              try clear c2
              try clear p2
              try clear c6
              try clear c8
              try clear c8b0
              try clear c8b1
              try clear c9
              try clear c10
              try clear c10b0
              try clear c10b1
              try clear c13
              try clear c16
              try clear c19
              try clear c19b0
              try clear hcz11_0
              try clear hcz11_1
              try clear hcz11_2
              try clear hcz11_3
              try clear hcz11_4
              try clear hcz11_5
              try clear hcz11_6
              try clear hcz12_0
              try clear hcz12_1
              try clear hcz12_2
              try clear hcz12_3
              try clear hcz12_4
              try clear hcz12_5
              try clear hcz12_6
              try clear hcz14_0
              try clear hcz14_1
              try clear hcz14_2
              try clear hcz14_3
              try clear hcz14_4
              try clear hcz14_5
              try clear hcz14_6
              try clear hcz17_0
              try clear hcz17_1
              try clear hcz17_2
              try clear hcz17_3
              try clear hcz17_4
              try clear hcz17_5
              try clear hcz17_6
              try clear hcz9_0
              try clear hcz9_1
              try clear hcz9_2
              try clear hcz9_3
              try clear hcz9_4
              try clear hcz9_5
              try clear hcz9_6
              try clear hfz11_0
              try clear hfz11_1
              try clear hfz11_2
              try clear hfz11_3
              try clear hfz11_4
              try clear hfz11_5
              try clear hfz11_6
              try clear hfz12_0
              try clear hfz12_1
              try clear hfz12_2
              try clear hfz12_3
              try clear hfz12_4
              try clear hfz12_5
              try clear hfz12_6
              try clear hfz14_0
              try clear hfz14_1
              try clear hfz14_2
              try clear hfz14_3
              try clear hfz14_4
              try clear hfz14_5
              try clear hfz14_6
              try clear hfz17_0
              try clear hfz17_1
              try clear hfz17_2
              try clear hfz17_3
              try clear hfz17_4
              try clear hfz17_5
              try clear hfz17_6
              try clear hfz9_0
              try clear hfz9_1
              try clear hfz9_2
              try clear hfz9_3
              try clear hfz9_4
              try clear hfz9_5
              try clear hfz9_6
              try clear p2
              obtain ⟨kq, x36_17, rfl, HA, HJ17, BK167, BK169, HB⟩ := hcut
              cases kq with
              | zero => exact absurd HA.out (by simp [wigwaglaw11_HystartFew.j2])
              | succ kj17 =>
                have H := HA.out
                clear HA
                simp only [wigwaglaw11_HystartFew.j2] at H
                by_cases c20 : x36_17 = true
                · subst c20
                  have H1 : (if 0 ≤ x9_2 then (if x9_2 < (l2.length : Int) then ((hystart_Sample.f kj17 x170000_2 x170001_2 x170002_2 x170003_2 x170004_2 x170005_2 x170006_2 (IntKind.u64.wrap (a0_1 - 1)) a1 (rd l2 x9_2)).bind fun bt171 => (wigwaglaw11_HystartFew.l0 kj17 a1 l2 t168 (wrap64 (x9_2 + 1)) a0_0 a0_1 a0_2 a0_3 0 a0_5 a0_6 bt171.1 bt171.2.1 bt171.2.2.1 bt171.2.2.2.1 bt171.2.2.2.2.1 bt171.2.2.2.2.2.1 bt171.2.2.2.2.2.2)) else (none)) else (none)) = some r := by rw [if_pos rfl] at H; exact H
                  clear H
                  have H := H1
                  clear H1
                  by_cases c21 : 0 ≤ x9_2
                  · rw [if_pos c21] at H
                    have c21b0 : decide (0 ≤ x9_2) = true := decide_eq_true c21
                    clear c21
                    by_cases c22 : x9_2 < (l2.length : Int)
                    · rw [if_pos c22] at H
                      have c22b0 : decide (x9_2 < (l2.length : Int)) = true := decide_eq_true c22
                      clear c22
                      replace H := Option.bind_eq_some_iff.mp H
                      obtain ⟨⟨t171, t172, t173, t174, t175, t176, t177⟩, A230, H⟩ := H
                      replace H : (wigwaglaw11_HystartFew.l0 kj17 a1 l2 t168 (wrap64 (x9_2 + 1)) a0_0 a0_1 a0_2 a0_3 0 a0_5 a0_6 t171 t172 t173 t174 t175 t176 t177) = some r := H
                      have A23 := Aside0.mk A230
                      clear A230
                      have H' := Aside0.mk H
                      clear H
                      try go_wp2
                      have n0_ := Aside0.mk (blk_drew BK167.out)
                      have n1_ := Aside0.mk (blk_drew BK169.out)
                      have n2_ := Aside0.mk (below_drew1 HB.out)
                      clear BK167
                      clear BK169
                      clear HB
                      have BK167 := n0_
                      have BK169 := n1_
                      have HB := n2_
                      clear n0_ n1_ n2_
                      have p170 : 0 ≤ (x9_2 : Int) := of_decide_eq_true (by first | (with_reducible assumption) | assumption)
                      have q170 : x9_2 < (l2.length : Int) := of_decide_eq_true (by first | (with_reducible assumption) | assumption)
                      obtain ⟨ad170, e170, hx170_0⟩ := Kd.at_int HR2.out x9_2 p170 q170
                      have hw170_0 := hx170_0
                      cases e170
                      replace hx170_0 := (HB.out.cell (World.block_lt_of_cell? w _ hx170_0)).trans hx170_0
                      replace p170 := eq_true p170
                      replace q170 := eq_true q170
                      refine start_ (n := 11) (S := fun w' => w'.cell? ⟨gb169, 0, none⟩ = some (.int .i64 x170000_2) ∧ w'.cell? ⟨gb169, 1, none⟩ = some (.int .u64 x170001_2) ∧ w'.cell? ⟨gb169, 2, none⟩ = some (.int .u64 x170002_2) ∧ w'.cell? ⟨gb169, 3, none⟩ = some (.int .u64 x170003_2) ∧ w'.cell? ⟨gb169, 4, none⟩ = some (.int .u64 x170004_2) ∧ w'.cell? ⟨gb169, 5, none⟩ = some (.int .u64 x170005_2) ∧ w'.cell? ⟨gb169, 6, none⟩ = some (.int .u64 x170006_2) ∧ w'.cell? ⟨gb167, 0, none⟩ = some (.int .i64 a0_0) ∧ w'.cell? ⟨gb167, 1, none⟩ = some (.int .u64 a0_1) ∧ w'.cell? ⟨gb167, 2, none⟩ = some (.int .u64 a0_2) ∧ w'.cell? ⟨gb167, 3, none⟩ = some (.int .u64 a0_3) ∧ w'.cell? ⟨gb167, 4, none⟩ = some (.int .u64 0) ∧ w'.cell? ⟨gb167, 5, none⟩ = some (.int .u64 a0_5) ∧ w'.cell? ⟨gb167, 6, none⟩ = some (.int .u64 a0_6) ∧ w'.cell? (ad170.add (x9_2).toNat) = some (.int .u64 (rd l2 x9_2))) (ds := [10]) #[false, false, false, false, false, false, false, false, false, false, false] (by kernel_rfl) rfl rfl ⟨(blk_cell BK169.out 0).trans rfl, (blk_cell BK169.out 1).trans rfl, (blk_cell BK169.out 2).trans rfl, (blk_cell BK169.out 3).trans rfl, (blk_cell BK169.out 4).trans rfl, (blk_cell BK169.out 5).trans rfl, (blk_cell BK169.out 6).trans rfl, (blk_cell BK167.out 0).trans rfl, (blk_cell BK167.out 1).trans rfl, (blk_cell BK167.out 2).trans rfl, (blk_cell BK167.out 3).trans rfl, (blk_cell BK167.out 4).trans rfl, (blk_cell BK167.out 5).trans rfl, (blk_cell BK167.out 6).trans rfl, ((HB.out.cell (World.block_lt_of_cell? w _ hw170_0)).trans hw170_0)⟩ (fun hHeld => ?_); refine with_tabW wigwaglaw11_HystartFew.tab9 wigwaglaw11_HystartFew.bits9 (fun HT_ HW_ => ?_)
                      generalize wc.drew = w24 at BK167 BK169 HB hx170_0 hHeld ⊢
                      refine pure_ (i := 1) (N := some 40) (v := ?_) (a' := ?_) #[false, true, false, false, false, false, false, false, false, false, false] rfl rfl (any_of HT_.out (by kernel_rfl)) (fun _ _ _ h => h) (Or.inl ⟨by rfl, ?_⟩) ?_ ?_
                      rotate_left
                      · intro w'
                        go_simp
                        with_reducible rfl
                      rotate_left
                      · simp only [Act.put, List.setIfInBounds_toArray, List.set_cons_zero, List.set_cons_succ, i64_w, i32_w]
                        rfl
                      refine pure_ (i := 4) (N := some 43) (v := ?_) (a' := ?_) #[false, true, false, false, true, false, false, false, false, false, false] rfl rfl (any_of HT_.out (by kernel_rfl)) (fun _ _ _ h => h) (Or.inl ⟨by rfl, ?_⟩) ?_ ?_
                      rotate_left
                      · intro w'
                        go_simp
                        with_reducible rfl
                      rotate_left
                      · simp only [Act.put, List.setIfInBounds_toArray, List.set_cons_zero, List.set_cons_succ, i64_w, i32_w]
                        rfl
                      refine pure_ (i := 5) (N := some 44) (v := ?_) (a' := ?_) #[false, true, false, false, true, true, false, false, false, false, false] rfl rfl (any_of HT_.out (by kernel_rfl)) (fun _ _ _ h => h) (Or.inl ⟨by rfl, ?_⟩) ?_ ?_
                      rotate_left
                      · intro w'
                        go_simp
                        with_reducible rfl
                      rotate_left
                      · simp only [Act.put, List.setIfInBounds_toArray, List.set_cons_zero, List.set_cons_succ, i64_w, i32_w]
                        rfl
                      refine pure_ (i := 6) (N := some 45) (v := ?_) (a' := ?_) #[false, true, false, false, true, true, true, false, false, false, false] rfl rfl (any_of HT_.out (by kernel_rfl)) (fun _ _ _ h => h) (Or.inl ⟨by rfl, ?_⟩) ?_ ?_
                      rotate_left
                      · intro w'
                        go_simp
                        with_reducible rfl
                      rotate_left
                      · simp only [Act.put, List.setIfInBounds_toArray, List.set_cons_zero, List.set_cons_succ, i64_w, i32_w]
                        rfl
                      refine pure_ (i := 7) (N := some 46) (v := ?_) (a' := ?_) #[false, true, false, false, true, true, true, true, false, false, false] rfl rfl (any_of HT_.out (by kernel_rfl)) (fun _ _ _ h => h) (Or.inl ⟨by rfl, ?_⟩) ?_ ?_
                      rotate_left
                      · intro w'
                        go_simp
                        with_reducible rfl
                      rotate_left
                      · simp only [Act.put, List.setIfInBounds_toArray, List.set_cons_zero, List.set_cons_succ, i64_w, i32_w]
                        rfl
                      refine take_ (i := 0) (N := some 39) (v := ?_) (a' := ?_) #[true, true, false, false, true, true, true, true, false, false, false] rfl rfl (take_ofW HT_.out HW_.out (by kernel_rfl)) (fun _ _ _ h => h) (Or.inl ⟨by rfl, ?_⟩) hHeld ?_ ?_
                      rotate_left
                      · rintro w' ⟨s0, s1, s2, s3, s4, s5, s6, s7, s8, s9, s10, s11, s12, s13, s14⟩
                        go_simp
                        with_reducible rfl
                      rotate_left
                      · simp only [Act.put, List.setIfInBounds_toArray, List.set_cons_zero, List.set_cons_succ, i64_w, i32_w]
                        rfl
                      refine take_ (i := 2) (N := some 41) (v := ?_) (a' := ?_) #[true, true, true, false, true, true, true, true, false, false, false] rfl rfl (take_ofW HT_.out HW_.out (by kernel_rfl)) (fun _ _ _ h => h) (Or.inl ⟨by rfl, ?_⟩) hHeld ?_ ?_
                      rotate_left
                      · rintro w' ⟨s0, s1, s2, s3, s4, s5, s6, s7, s8, s9, s10, s11, s12, s13, s14⟩
                        go_simp
                        with_reducible rfl
                      rotate_left
                      · simp only [Act.put, List.setIfInBounds_toArray, List.set_cons_zero, List.set_cons_succ, i64_w, i32_w]
                        rfl
                      refine pure_ (i := 3) (N := some 42) (v := ?_) (a' := ?_) #[true, true, true, true, true, true, true, true, false, false, false] rfl rfl (any_of HT_.out (by kernel_rfl)) (fun _ _ _ h => h) (Or.inl ⟨by rfl, ?_⟩) ?_ ?_
                      rotate_left
                      · intro w'
                        go_simp
                        with_reducible rfl
                      rotate_left
                      · simp only [Act.put, List.setIfInBounds_toArray, List.set_cons_zero, List.set_cons_succ, i64_w, i32_w]
                        rfl
                      refine take_ (i := 8) (N := some 47) (v := ?_) (a' := ?_) #[true, true, true, true, true, true, true, true, true, false, false] rfl rfl (take_ofW HT_.out HW_.out (by kernel_rfl)) (fun _ _ _ h => h) (Or.inl ⟨by rfl, ?_⟩) hHeld ?_ ?_
                      rotate_left
                      · rintro w' ⟨s0, s1, s2, s3, s4, s5, s6, s7, s8, s9, s10, s11, s12, s13, s14⟩
                        go_simp
                        with_reducible rfl
                      rotate_left
                      · simp only [Act.put, List.setIfInBounds_toArray, List.set_cons_zero, List.set_cons_succ, i64_w, i32_w]
                        rfl
                      refine one_ (i := 9) (N := some 48) #[true, true, true, true, true, true, true, true, true, true, false] rfl rfl (one_of HT_.out (by kernel_rfl)) (by decide) (fun K hK => ?_)
                      refine goes_ Try.func10 (by kernel_rfl) rfl #[.agg #[.int .i64 x170000_2, .int .u64 x170001_2, .int .u64 x170002_2, .int .u64 x170003_2, .int .u64 x170004_2, .int .u64 x170005_2, .int .u64 x170006_2], .int .u64 (IntKind.u64.wrap (a0_1 - 1)), .int .u64 a1, .int .u64 (rd l2 x9_2)] (by rfl) rfl rfl (by (try simp only [List.map_toArray, List.map_cons, List.map_nil]); first | done | rfl | (simp only [List.length_drop, List.length_take]; rfl)) ?_
                      with_reducible refine (hystart_Sample.calls kj17 x170000_2 x170001_2 x170002_2 x170003_2 x170004_2 x170005_2 x170006_2 (IntKind.u64.wrap (a0_1 - 1)) a1 (rd l2 x9_2) t171 t172 t173 t174 t175 t176 t177 _ A23.out).mono ?_
                      rintro e w25 ⟨rfl, hb⟩
                      refine ⟨_, rfl, ?_⟩
                      have n0_ := Aside0.mk (blk_below (g := gb167) (o := .cells #[.int .i64 a0_0, .int .u64 a0_1, .int .u64 a0_2, .int .u64 a0_3, .int .u64 0, .int .u64 a0_5, .int .u64 a0_6] 25 (0, 0)) (by (with_reducible repeat (first | refine blk_drewN ?_ _ | refine blk_drew ?_ | refine blk_alloc ?_ _)); exact BK167.out) hb)
                      have n1_ := Aside0.mk (blk_below (g := gb169) (o := .cells #[.int .i64 x170000_2, .int .u64 x170001_2, .int .u64 x170002_2, .int .u64 x170003_2, .int .u64 x170004_2, .int .u64 x170005_2, .int .u64 x170006_2] 25 (0, 0)) (by (with_reducible repeat (first | refine blk_drewN ?_ _ | refine blk_drew ?_ | refine blk_alloc ?_ _)); exact BK169.out) hb)
                      have n2_ := Aside0.mk (below_step (by repeat (first | (with_reducible first | exact HB.out | apply below_alloc | apply pw_below_drewN | apply below_drew1 | refine below_set ?_ GE167.out | refine below_set ?_ GE169.out) | exact HB.out)) hb)
                      clear BK167
                      clear BK169
                      clear HB
                      have BK167 := n0_
                      have BK169 := n1_
                      have HB := n2_
                      clear n0_ n1_ n2_
                      (try clear hb)
                      (try clear hb2)
                      (try clear hk)
                      (try clear hi)
                      refine hK.out _ _ ⟨(blk_cell BK169.out 0).trans rfl, (blk_cell BK169.out 1).trans rfl, (blk_cell BK169.out 2).trans rfl, (blk_cell BK169.out 3).trans rfl, (blk_cell BK169.out 4).trans rfl, (blk_cell BK169.out 5).trans rfl, (blk_cell BK169.out 6).trans rfl, (blk_cell BK167.out 0).trans rfl, (blk_cell BK167.out 1).trans rfl, (blk_cell BK167.out 2).trans rfl, (blk_cell BK167.out 3).trans rfl, (blk_cell BK167.out 4).trans rfl, (blk_cell BK167.out 5).trans rfl, (blk_cell BK167.out 6).trans rfl, ((HB.out.cell (World.block_lt_of_cell? w _ hw170_0)).trans hw170_0)⟩ (fun hHeld => ?_)
                      clear hK K
                      refine norm_ (a' := ?_) ?_ ?_
                      rotate_left
                      · show Act.put _ (some 48) _ = _
                        simp only [Act.put, List.setIfInBounds_toArray, List.set_cons_zero, List.set_cons_succ, i64_w, i32_w]
                        rfl
                      refine last_ (i := 10) (N := none) #[true, true, true, true, true, true, true, true, true, true, true] rfl rfl (one_of HT_.out (by kernel_rfl)) (by decide) (fun K hK => ?_)
                      have hs26 : w25.cell? ⟨gb169, 0, none⟩ = some (.int .i64 x170000_2) := (blk_cell BK169.out 0).trans rfl
                      have hfs26 := blk_frozen BK169.out 0
                      have hns26_0 := NB167_169.out
                      have hms26_0 := NB169_167.out
                      have hs27 : w25.cell? ⟨gb169, 1, none⟩ = some (.int .u64 x170001_2) := (blk_cell BK169.out 1).trans rfl
                      have hfs27 := blk_frozen BK169.out 1
                      have hns27_0 := NB167_169.out
                      have hms27_0 := NB169_167.out
                      have hs28 : w25.cell? ⟨gb169, 2, none⟩ = some (.int .u64 x170002_2) := (blk_cell BK169.out 2).trans rfl
                      have hfs28 := blk_frozen BK169.out 2
                      have hns28_0 := NB167_169.out
                      have hms28_0 := NB169_167.out
                      have hs29 : w25.cell? ⟨gb169, 3, none⟩ = some (.int .u64 x170003_2) := (blk_cell BK169.out 3).trans rfl
                      have hfs29 := blk_frozen BK169.out 3
                      have hns29_0 := NB167_169.out
                      have hms29_0 := NB169_167.out
                      have hs30 : w25.cell? ⟨gb169, 4, none⟩ = some (.int .u64 x170004_2) := (blk_cell BK169.out 4).trans rfl
                      have hfs30 := blk_frozen BK169.out 4
                      have hns30_0 := NB167_169.out
                      have hms30_0 := NB169_167.out
                      have hs31 : w25.cell? ⟨gb169, 5, none⟩ = some (.int .u64 x170005_2) := (blk_cell BK169.out 5).trans rfl
                      have hfs31 := blk_frozen BK169.out 5
                      have hns31_0 := NB167_169.out
                      have hms31_0 := NB169_167.out
                      have hs32 : w25.cell? ⟨gb169, 6, none⟩ = some (.int .u64 x170006_2) := (blk_cell BK169.out 6).trans rfl
                      have hfs32 := blk_frozen BK169.out 6
                      have hns32_0 := NB167_169.out
                      have hms32_0 := NB169_167.out
                      refine skip_ (w1 := ?_) (by rfl) rfl ?_ ?_
                      rotate_left
                      · go_simp
                        rfl
                      refine hK.out _ _ ?_
                      clear hK K
                      refine done_ (done_of HT_.out (by kernel_rfl)) ?_
                      try go_wp2
                      go_roundg kj17
                      case measure => have := HJ4.out; have := HK2.out; have := HJ17.out; omega
                      case rel => exact ⟨(wrap64 (x9_2 + 1)), (t171), (t172), (t173), (t174), (t175), (t176), (t177), (by first | rfl | (simp; done) | (simp [*]; done)), H', ⟨by have := HJ4.out; have := HK2.out; have := HJ17.out; omega⟩, ⟨by (with_reducible repeat (first | refine blk_drewN ?_ _ | refine blk_drew ?_ | refine blk_alloc ?_ _)); refine blk_far ?_ NB167_169.out _; (with_reducible repeat (first | refine blk_drewN ?_ _ | refine blk_drew ?_ | refine blk_alloc ?_ _)); refine blk_far ?_ NB167_169.out _; (with_reducible repeat (first | refine blk_drewN ?_ _ | refine blk_drew ?_ | refine blk_alloc ?_ _)); refine blk_far ?_ NB167_169.out _; (with_reducible repeat (first | refine blk_drewN ?_ _ | refine blk_drew ?_ | refine blk_alloc ?_ _)); refine blk_far ?_ NB167_169.out _; (with_reducible repeat (first | refine blk_drewN ?_ _ | refine blk_drew ?_ | refine blk_alloc ?_ _)); refine blk_far ?_ NB167_169.out _; (with_reducible repeat (first | refine blk_drewN ?_ _ | refine blk_drew ?_ | refine blk_alloc ?_ _)); refine blk_far ?_ NB167_169.out _; (with_reducible repeat (first | refine blk_drewN ?_ _ | refine blk_drew ?_ | refine blk_alloc ?_ _)); refine blk_far ?_ NB167_169.out _; (with_reducible repeat (first | refine blk_drewN ?_ _ | refine blk_drew ?_ | refine blk_alloc ?_ _)); exact BK167.out⟩, ⟨by (with_reducible repeat (first | refine blk_drewN ?_ _ | refine blk_drew ?_ | refine blk_alloc ?_ _)); refine blk_put (cs := #[.int .i64 t171, .int .u64 t172, .int .u64 t173, .int .u64 t174, .int .u64 t175, .int .u64 t176, .int .u64 x170006_2]) ?_ 6 _ rfl; (with_reducible repeat (first | refine blk_drewN ?_ _ | refine blk_drew ?_ | refine blk_alloc ?_ _)); refine blk_put (cs := #[.int .i64 t171, .int .u64 t172, .int .u64 t173, .int .u64 t174, .int .u64 t175, .int .u64 x170005_2, .int .u64 x170006_2]) ?_ 5 _ rfl; (with_reducible repeat (first | refine blk_drewN ?_ _ | refine blk_drew ?_ | refine blk_alloc ?_ _)); refine blk_put (cs := #[.int .i64 t171, .int .u64 t172, .int .u64 t173, .int .u64 t174, .int .u64 x170004_2, .int .u64 x170005_2, .int .u64 x170006_2]) ?_ 4 _ rfl; (with_reducible repeat (first | refine blk_drewN ?_ _ | refine blk_drew ?_ | refine blk_alloc ?_ _)); refine blk_put (cs := #[.int .i64 t171, .int .u64 t172, .int .u64 t173, .int .u64 x170003_2, .int .u64 x170004_2, .int .u64 x170005_2, .int .u64 x170006_2]) ?_ 3 _ rfl; (with_reducible repeat (first | refine blk_drewN ?_ _ | refine blk_drew ?_ | refine blk_alloc ?_ _)); refine blk_put (cs := #[.int .i64 t171, .int .u64 t172, .int .u64 x170002_2, .int .u64 x170003_2, .int .u64 x170004_2, .int .u64 x170005_2, .int .u64 x170006_2]) ?_ 2 _ rfl; (with_reducible repeat (first | refine blk_drewN ?_ _ | refine blk_drew ?_ | refine blk_alloc ?_ _)); refine blk_put (cs := #[.int .i64 t171, .int .u64 x170001_2, .int .u64 x170002_2, .int .u64 x170003_2, .int .u64 x170004_2, .int .u64 x170005_2, .int .u64 x170006_2]) ?_ 1 _ rfl; (with_reducible repeat (first | refine blk_drewN ?_ _ | refine blk_drew ?_ | refine blk_alloc ?_ _)); refine blk_put (cs := #[.int .i64 x170000_2, .int .u64 x170001_2, .int .u64 x170002_2, .int .u64 x170003_2, .int .u64 x170004_2, .int .u64 x170005_2, .int .u64 x170006_2]) ?_ 0 _ rfl; (with_reducible repeat (first | refine blk_drewN ?_ _ | refine blk_drew ?_ | refine blk_alloc ?_ _)); exact BK169.out⟩, ⟨by repeat (first | (with_reducible first | exact HB.out | apply below_alloc | apply pw_below_drewN | apply below_drew1 | refine below_set ?_ GE167.out | refine below_set ?_ GE169.out) | exact HB.out)⟩⟩
                    · rw [if_neg c22] at H
                      exact absurd H (by simp)
                  · rw [if_neg c21] at H
                    exact absurd H (by simp)
                · replace c20 := Bool.eq_false_iff.mpr c20
                  subst c20
                  have H1 : (wigwaglaw11_HystartFew.l1 kj17 l2 t168 a0_3 0 a0_0 a0_1 a0_2 a0_3 0 a0_5 a0_6 x170000_2 x170001_2 x170002_2 x170003_2 x170004_2 x170005_2 x170006_2) = some r := by rw [if_neg (show ¬ (false = true) by decide)] at H; exact H
                  clear H
                  have H := H1
                  clear H1
                  have H' := Aside0.mk H
                  clear H
                  have hnb33 := NB167_169.out
                  have hnc33 := NB169_167.out
                  have hcz34_0 : wc.cell? ⟨gb167, 0, none⟩ = some (.int .i64 a0_0) := (blk_cell BK167.out 0).trans rfl
                  have hcz34_1 : wc.cell? ⟨gb167, 1, none⟩ = some (.int .u64 a0_1) := (blk_cell BK167.out 1).trans rfl
                  have hcz34_2 : wc.cell? ⟨gb167, 2, none⟩ = some (.int .u64 a0_2) := (blk_cell BK167.out 2).trans rfl
                  have hcz34_3 : wc.cell? ⟨gb167, 3, none⟩ = some (.int .u64 a0_3) := (blk_cell BK167.out 3).trans rfl
                  have hcz34_4 : wc.cell? ⟨gb167, 4, none⟩ = some (.int .u64 0) := (blk_cell BK167.out 4).trans rfl
                  have hcz34_5 : wc.cell? ⟨gb167, 5, none⟩ = some (.int .u64 a0_5) := (blk_cell BK167.out 5).trans rfl
                  have hcz34_6 : wc.cell? ⟨gb167, 6, none⟩ = some (.int .u64 a0_6) := (blk_cell BK167.out 6).trans rfl
                  have hfz34_0 := blk_frozen BK167.out 0
                  have hfz34_1 := blk_frozen BK167.out 1
                  have hfz34_2 := blk_frozen BK167.out 2
                  have hfz34_3 := blk_frozen BK167.out 3
                  have hfz34_4 := blk_frozen BK167.out 4
                  have hfz34_5 := blk_frozen BK167.out 5
                  have hfz34_6 := blk_frozen BK167.out 6
                  go_wp2
                  go_loopg [10, 11] kj17 (fun kq v10 v11 w' => ∃ (x10_4 : Int) (x11_4 : Int), v10 = .int .u64 x10_4 ∧ v11 = .int .i64 x11_4 ∧ Aside0 (wigwaglaw11_HystartFew.l1 kq l2 t168 x10_4 x11_4 a0_0 a0_1 a0_2 a0_3 0 a0_5 a0_6 x170000_2 x170001_2 x170002_2 x170003_2 x170004_2 x170005_2 x170006_2 = some r) ∧ Aside0 (kq ≤ kj17) ∧ Aside0 (w'.heap[gb167]? = some (.cells #[.int .i64 a0_0, .int .u64 a0_1, .int .u64 a0_2, .int .u64 a0_3, .int .u64 0, .int .u64 a0_5, .int .u64 a0_6] 25 (0, 0))) ∧ Aside0 (w'.heap[gb169]? = some (.cells #[.int .i64 x170000_2, .int .u64 x170001_2, .int .u64 x170002_2, .int .u64 x170003_2, .int .u64 x170004_2, .int .u64 x170005_2, .int .u64 x170006_2] 25 (0, 0))) ∧ Aside0 (Below w.heap.size w w'))
                  case atStart => exact ⟨(a0_3), (0), (by first | rfl | (simp; done) | (simp [*]; done)), (by first | rfl | (simp; done) | (simp [*]; done)), H', ⟨Nat.le_refl _⟩, ⟨by (with_reducible repeat (first | refine blk_drewN ?_ _ | refine blk_drew ?_ | refine blk_alloc ?_ _)); exact BK167.out⟩, ⟨by (with_reducible repeat (first | refine blk_drewN ?_ _ | refine blk_drew ?_ | refine blk_alloc ?_ _)); exact BK169.out⟩, ⟨by repeat (first | (with_reducible first | exact HB.out | apply below_alloc | apply pw_below_drewN | apply below_drew1 | refine below_set ?_ GE167.out | refine below_set ?_ GE169.out) | exact HB.out)⟩⟩
                  case round =>
                    clear H'
                    try clear c1
                    try clear p1
                    try clear q1
                    try clear hx1
                    try clear c2
                    try clear p2
                    try clear c3
                    try clear c6
                    try clear p6
                    try clear c8
                    try clear c8b0
                    try clear c8b1
                    try clear c9
                    try clear c10
                    try clear c10b0
                    try clear c10b1
                    try clear c13
                    try clear c16
                    try clear p17
                    try clear q17
                    try clear hx17
                    try clear c19
                    try clear c19b0
                    try clear c20
                    try clear c21
                    try clear c21b0
                    try clear c22
                    try clear c22b0
                    try clear c33
                    try clear hcz11_0
                    try clear hcz11_1
                    try clear hcz11_2
                    try clear hcz11_3
                    try clear hcz11_4
                    try clear hcz11_5
                    try clear hcz11_6
                    try clear hcz12_0
                    try clear hcz12_1
                    try clear hcz12_2
                    try clear hcz12_3
                    try clear hcz12_4
                    try clear hcz12_5
                    try clear hcz12_6
                    try clear hcz14_0
                    try clear hcz14_1
                    try clear hcz14_2
                    try clear hcz14_3
                    try clear hcz14_4
                    try clear hcz14_5
                    try clear hcz14_6
                    try clear hcz17_0
                    try clear hcz17_1
                    try clear hcz17_2
                    try clear hcz17_3
                    try clear hcz17_4
                    try clear hcz17_5
                    try clear hcz17_6
                    try clear hcz34_0
                    try clear hcz34_1
                    try clear hcz34_2
                    try clear hcz34_3
                    try clear hcz34_4
                    try clear hcz34_5
                    try clear hcz34_6
                    try clear hcz9_0
                    try clear hcz9_1
                    try clear hcz9_2
                    try clear hcz9_3
                    try clear hcz9_4
                    try clear hcz9_5
                    try clear hcz9_6
                    try clear hfz11_0
                    try clear hfz11_1
                    try clear hfz11_2
                    try clear hfz11_3
                    try clear hfz11_4
                    try clear hfz11_5
                    try clear hfz11_6
                    try clear hfz12_0
                    try clear hfz12_1
                    try clear hfz12_2
                    try clear hfz12_3
                    try clear hfz12_4
                    try clear hfz12_5
                    try clear hfz12_6
                    try clear hfz14_0
                    try clear hfz14_1
                    try clear hfz14_2
                    try clear hfz14_3
                    try clear hfz14_4
                    try clear hfz14_5
                    try clear hfz14_6
                    try clear hfz17_0
                    try clear hfz17_1
                    try clear hfz17_2
                    try clear hfz17_3
                    try clear hfz17_4
                    try clear hfz17_5
                    try clear hfz17_6
                    try clear hfz34_0
                    try clear hfz34_1
                    try clear hfz34_2
                    try clear hfz34_3
                    try clear hfz34_4
                    try clear hfz34_5
                    try clear hfz34_6
                    try clear hfz9_0
                    try clear hfz9_1
                    try clear hfz9_2
                    try clear hfz9_3
                    try clear hfz9_4
                    try clear hfz9_5
                    try clear hfz9_6
                    try clear hx170_0
                    try clear p170
                    try clear p2
                    try clear q170
                    obtain ⟨x10_4, x11_4, rfl, rfl, HA, HK4, BK167, BK169, HB⟩ := hrel
                    cases gk with
                    | zero => exact absurd HA.out (by simp [wigwaglaw11_HystartFew.l1])
                    | succ k4 =>
                      have H := HA.out
                      clear HA
                      simp only [wigwaglaw11_HystartFew.l1] at H
                      by_cases c35 : x11_4 < (l2.length : Int)
                      · rw [if_pos c35] at H
                        have c35b0 : decide (x11_4 < (l2.length : Int)) = true := decide_eq_true c35
                        clear c35
                        by_cases c36 : x11_4 < 7
                        · rw [if_pos c36] at H
                          have c36b0 : decide (x11_4 < 7) = true := decide_eq_true c36
                          clear c36
                          by_cases c37 : 0 ≤ x11_4
                          · rw [if_pos c37] at H
                            have c37b0 : decide (0 ≤ x11_4) = true := decide_eq_true c37
                            clear c37
                            obtain ⟨ji38, hji38⟩ : ∃ j_ : Int, (mn x10_4 (rd l2 x11_4)) = j_ := ⟨_, rfl⟩
                            replace H : (wigwaglaw11_HystartFew.l1 k4 l2 t168 ji38 (wrap64 (x11_4 + 1)) a0_0 a0_1 a0_2 a0_3 0 a0_5 a0_6 x170000_2 x170001_2 x170002_2 x170003_2 x170004_2 x170005_2 x170006_2) = some r := by first | (rw [hji38] at H; exact H) | (simp only [hji38] at H ⊢; exact H)
                            have hji38_ : (if (rd l2 x11_4) < x10_4 then (rd l2 x11_4) else x10_4) = ji38 := hji38
                            have H' := Aside0.mk H
                            clear H
                            have p178 : 0 ≤ (x11_4 : Int) := of_decide_eq_true (by first | (with_reducible assumption) | assumption)
                            have q178 : x11_4 < (l2.length : Int) := of_decide_eq_true (by first | (with_reducible assumption) | assumption)
                            obtain ⟨ad178, e178, hx178_0⟩ := Kd.at_int HR2.out x11_4 p178 q178
                            cases e178
                            replace hx178_0 := (HB.out.cell (World.block_lt_of_cell? w _ hx178_0)).trans hx178_0
                            replace p178 := eq_true p178
                            replace q178 := eq_true q178
                            go_wp2
                            go_roundg k4
                            case measure => have := HJ4.out; have := HK2.out; have := HJ17.out; have := HK4.out; omega
                            case rel => exact ⟨(ji38), (wrap64 (x11_4 + 1)), (by first | rfl | (simp; done) | (simp only [← hji38] <;> (first | rfl | simp)) | (simp [*]; done)), (by first | rfl | (simp; done) | (simp [*]; done)), H', ⟨by have := HJ4.out; have := HK2.out; have := HJ17.out; have := HK4.out; omega⟩, ⟨by (with_reducible repeat (first | refine blk_drewN ?_ _ | refine blk_drew ?_ | refine blk_alloc ?_ _)); exact BK167.out⟩, ⟨by (with_reducible repeat (first | refine blk_drewN ?_ _ | refine blk_drew ?_ | refine blk_alloc ?_ _)); exact BK169.out⟩, ⟨by repeat (first | (with_reducible first | exact HB.out | apply below_alloc | apply pw_below_drewN | apply below_drew1 | refine below_set ?_ GE167.out | refine below_set ?_ GE169.out) | exact HB.out)⟩⟩
                          · rw [if_neg c37] at H
                            exact absurd H (by simp)
                        · rw [if_neg c36] at H
                          have c36b0 : decide (x11_4 < 7) = false := decide_eq_false c36
                          clear c36
                          by_cases c39 : t168 = true
                          · subst c39
                            have H1 : (if x170000_2 = a0_0 then (if x170001_2 = a0_1 then (if x170002_2 = a0_2 then (if x170005_2 = a0_5 then (if x170006_2 = a0_6 then (some (x170003_2 == x10_4)) else (some false)) else (some false)) else (some false)) else (some false)) else (some false)) = some r := by rw [if_pos rfl] at H; exact H
                            clear H
                            have H := H1
                            clear H1
                            by_cases c40 : x170000_2 = a0_0
                            · rw [if_pos c40] at H
                              have c40b0 : (x170000_2 == a0_0) = true := beq_iff_eq.mpr c40
                              have c40b1 : (x170000_2 != a0_0) = false := bne_eq_false_iff_eq.mpr c40
                              clear c40
                              by_cases c41 : x170001_2 = a0_1
                              · rw [if_pos c41] at H
                                have c41b0 : (x170001_2 == a0_1) = true := beq_iff_eq.mpr c41
                                have c41b1 : (x170001_2 != a0_1) = false := bne_eq_false_iff_eq.mpr c41
                                clear c41
                                by_cases c42 : x170002_2 = a0_2
                                · rw [if_pos c42] at H
                                  have c42b0 : (x170002_2 == a0_2) = true := beq_iff_eq.mpr c42
                                  have c42b1 : (x170002_2 != a0_2) = false := bne_eq_false_iff_eq.mpr c42
                                  clear c42
                                  by_cases c43 : x170005_2 = a0_5
                                  · rw [if_pos c43] at H
                                    have c43b0 : (x170005_2 == a0_5) = true := beq_iff_eq.mpr c43
                                    have c43b1 : (x170005_2 != a0_5) = false := bne_eq_false_iff_eq.mpr c43
                                    clear c43
                                    by_cases c44 : x170006_2 = a0_6
                                    · rw [if_pos c44] at H
                                      have c44b0 : (x170006_2 == a0_6) = true := beq_iff_eq.mpr c44
                                      have c44b1 : (x170006_2 != a0_6) = false := bne_eq_false_iff_eq.mpr c44
                                      clear c44
                                      obtain rfl := Option.some.inj H
                                      have hnb45 := NB169_167.out
                                      have hnc45 := NB167_169.out
                                      have hcz46_0 : wr.cell? ⟨gb169, 0, none⟩ = some (.int .i64 x170000_2) := (blk_cell BK169.out 0).trans rfl
                                      have hcz46_1 : wr.cell? ⟨gb169, 1, none⟩ = some (.int .u64 x170001_2) := (blk_cell BK169.out 1).trans rfl
                                      have hcz46_2 : wr.cell? ⟨gb169, 2, none⟩ = some (.int .u64 x170002_2) := (blk_cell BK169.out 2).trans rfl
                                      have hcz46_3 : wr.cell? ⟨gb169, 3, none⟩ = some (.int .u64 x170003_2) := (blk_cell BK169.out 3).trans rfl
                                      have hcz46_4 : wr.cell? ⟨gb169, 4, none⟩ = some (.int .u64 x170004_2) := (blk_cell BK169.out 4).trans rfl
                                      have hcz46_5 : wr.cell? ⟨gb169, 5, none⟩ = some (.int .u64 x170005_2) := (blk_cell BK169.out 5).trans rfl
                                      have hcz46_6 : wr.cell? ⟨gb169, 6, none⟩ = some (.int .u64 x170006_2) := (blk_cell BK169.out 6).trans rfl
                                      have hfz46_0 := blk_frozen BK169.out 0
                                      have hfz46_1 := blk_frozen BK169.out 1
                                      have hfz46_2 := blk_frozen BK169.out 2
                                      have hfz46_3 := blk_frozen BK169.out 3
                                      have hfz46_4 := blk_frozen BK169.out 4
                                      have hfz46_5 := blk_frozen BK169.out 5
                                      have hfz46_6 := blk_frozen BK169.out 6
                                      have hcz47_0 : wr.cell? ⟨gb167, 0, none⟩ = some (.int .i64 a0_0) := (blk_cell BK167.out 0).trans rfl
                                      have hcz47_1 : wr.cell? ⟨gb167, 1, none⟩ = some (.int .u64 a0_1) := (blk_cell BK167.out 1).trans rfl
                                      have hcz47_2 : wr.cell? ⟨gb167, 2, none⟩ = some (.int .u64 a0_2) := (blk_cell BK167.out 2).trans rfl
                                      have hcz47_3 : wr.cell? ⟨gb167, 3, none⟩ = some (.int .u64 a0_3) := (blk_cell BK167.out 3).trans rfl
                                      have hcz47_4 : wr.cell? ⟨gb167, 4, none⟩ = some (.int .u64 0) := (blk_cell BK167.out 4).trans rfl
                                      have hcz47_5 : wr.cell? ⟨gb167, 5, none⟩ = some (.int .u64 a0_5) := (blk_cell BK167.out 5).trans rfl
                                      have hcz47_6 : wr.cell? ⟨gb167, 6, none⟩ = some (.int .u64 a0_6) := (blk_cell BK167.out 6).trans rfl
                                      have hfz47_0 := blk_frozen BK167.out 0
                                      have hfz47_1 := blk_frozen BK167.out 1
                                      have hfz47_2 := blk_frozen BK167.out 2
                                      have hfz47_3 := blk_frozen BK167.out 3
                                      have hfz47_4 := blk_frozen BK167.out 4
                                      have hfz47_5 := blk_frozen BK167.out 5
                                      have hfz47_6 := blk_frozen BK167.out 6
                                      go_wp2
                                      go_ret
                                      exact ⟨by first | rfl | (simp [errW_none, errW_some] <;> rfl) | (simp [*, errW_none, errW_some] <;> rfl), by repeat (first | (with_reducible first | exact HB.out | apply below_alloc | apply pw_below_drewN | apply below_drew1 | refine below_set ?_ GE167.out | refine below_set ?_ GE169.out) | exact HB.out)⟩
                                    · rw [if_neg c44] at H
                                      have c44b0 : (x170006_2 == a0_6) = false := beq_eq_false_iff_ne.mpr c44
                                      have c44b1 : (x170006_2 != a0_6) = true := bne_iff_ne.mpr c44
                                      obtain rfl := Option.some.inj H
                                      have hnb48 := NB169_167.out
                                      have hnc48 := NB167_169.out
                                      have hcz49_0 : wr.cell? ⟨gb169, 0, none⟩ = some (.int .i64 x170000_2) := (blk_cell BK169.out 0).trans rfl
                                      have hcz49_1 : wr.cell? ⟨gb169, 1, none⟩ = some (.int .u64 x170001_2) := (blk_cell BK169.out 1).trans rfl
                                      have hcz49_2 : wr.cell? ⟨gb169, 2, none⟩ = some (.int .u64 x170002_2) := (blk_cell BK169.out 2).trans rfl
                                      have hcz49_3 : wr.cell? ⟨gb169, 3, none⟩ = some (.int .u64 x170003_2) := (blk_cell BK169.out 3).trans rfl
                                      have hcz49_4 : wr.cell? ⟨gb169, 4, none⟩ = some (.int .u64 x170004_2) := (blk_cell BK169.out 4).trans rfl
                                      have hcz49_5 : wr.cell? ⟨gb169, 5, none⟩ = some (.int .u64 x170005_2) := (blk_cell BK169.out 5).trans rfl
                                      have hcz49_6 : wr.cell? ⟨gb169, 6, none⟩ = some (.int .u64 x170006_2) := (blk_cell BK169.out 6).trans rfl
                                      have hfz49_0 := blk_frozen BK169.out 0
                                      have hfz49_1 := blk_frozen BK169.out 1
                                      have hfz49_2 := blk_frozen BK169.out 2
                                      have hfz49_3 := blk_frozen BK169.out 3
                                      have hfz49_4 := blk_frozen BK169.out 4
                                      have hfz49_5 := blk_frozen BK169.out 5
                                      have hfz49_6 := blk_frozen BK169.out 6
                                      have hcz50_0 : wr.cell? ⟨gb167, 0, none⟩ = some (.int .i64 a0_0) := (blk_cell BK167.out 0).trans rfl
                                      have hcz50_1 : wr.cell? ⟨gb167, 1, none⟩ = some (.int .u64 a0_1) := (blk_cell BK167.out 1).trans rfl
                                      have hcz50_2 : wr.cell? ⟨gb167, 2, none⟩ = some (.int .u64 a0_2) := (blk_cell BK167.out 2).trans rfl
                                      have hcz50_3 : wr.cell? ⟨gb167, 3, none⟩ = some (.int .u64 a0_3) := (blk_cell BK167.out 3).trans rfl
                                      have hcz50_4 : wr.cell? ⟨gb167, 4, none⟩ = some (.int .u64 0) := (blk_cell BK167.out 4).trans rfl
                                      have hcz50_5 : wr.cell? ⟨gb167, 5, none⟩ = some (.int .u64 a0_5) := (blk_cell BK167.out 5).trans rfl
                                      have hcz50_6 : wr.cell? ⟨gb167, 6, none⟩ = some (.int .u64 a0_6) := (blk_cell BK167.out 6).trans rfl
                                      have hfz50_0 := blk_frozen BK167.out 0
                                      have hfz50_1 := blk_frozen BK167.out 1
                                      have hfz50_2 := blk_frozen BK167.out 2
                                      have hfz50_3 := blk_frozen BK167.out 3
                                      have hfz50_4 := blk_frozen BK167.out 4
                                      have hfz50_5 := blk_frozen BK167.out 5
                                      have hfz50_6 := blk_frozen BK167.out 6
                                      go_wp2
                                      go_ret
                                      exact ⟨by first | rfl | (simp [errW_none, errW_some] <;> rfl) | (simp [*, errW_none, errW_some] <;> rfl), by repeat (first | (with_reducible first | exact HB.out | apply below_alloc | apply pw_below_drewN | apply below_drew1 | refine below_set ?_ GE167.out | refine below_set ?_ GE169.out) | exact HB.out)⟩
                                  · rw [if_neg c43] at H
                                    have c43b0 : (x170005_2 == a0_5) = false := beq_eq_false_iff_ne.mpr c43
                                    have c43b1 : (x170005_2 != a0_5) = true := bne_iff_ne.mpr c43
                                    obtain rfl := Option.some.inj H
                                    have hnb51 := NB169_167.out
                                    have hnc51 := NB167_169.out
                                    have hcz52_0 : wr.cell? ⟨gb169, 0, none⟩ = some (.int .i64 x170000_2) := (blk_cell BK169.out 0).trans rfl
                                    have hcz52_1 : wr.cell? ⟨gb169, 1, none⟩ = some (.int .u64 x170001_2) := (blk_cell BK169.out 1).trans rfl
                                    have hcz52_2 : wr.cell? ⟨gb169, 2, none⟩ = some (.int .u64 x170002_2) := (blk_cell BK169.out 2).trans rfl
                                    have hcz52_3 : wr.cell? ⟨gb169, 3, none⟩ = some (.int .u64 x170003_2) := (blk_cell BK169.out 3).trans rfl
                                    have hcz52_4 : wr.cell? ⟨gb169, 4, none⟩ = some (.int .u64 x170004_2) := (blk_cell BK169.out 4).trans rfl
                                    have hcz52_5 : wr.cell? ⟨gb169, 5, none⟩ = some (.int .u64 x170005_2) := (blk_cell BK169.out 5).trans rfl
                                    have hcz52_6 : wr.cell? ⟨gb169, 6, none⟩ = some (.int .u64 x170006_2) := (blk_cell BK169.out 6).trans rfl
                                    have hfz52_0 := blk_frozen BK169.out 0
                                    have hfz52_1 := blk_frozen BK169.out 1
                                    have hfz52_2 := blk_frozen BK169.out 2
                                    have hfz52_3 := blk_frozen BK169.out 3
                                    have hfz52_4 := blk_frozen BK169.out 4
                                    have hfz52_5 := blk_frozen BK169.out 5
                                    have hfz52_6 := blk_frozen BK169.out 6
                                    have hcz53_0 : wr.cell? ⟨gb167, 0, none⟩ = some (.int .i64 a0_0) := (blk_cell BK167.out 0).trans rfl
                                    have hcz53_1 : wr.cell? ⟨gb167, 1, none⟩ = some (.int .u64 a0_1) := (blk_cell BK167.out 1).trans rfl
                                    have hcz53_2 : wr.cell? ⟨gb167, 2, none⟩ = some (.int .u64 a0_2) := (blk_cell BK167.out 2).trans rfl
                                    have hcz53_3 : wr.cell? ⟨gb167, 3, none⟩ = some (.int .u64 a0_3) := (blk_cell BK167.out 3).trans rfl
                                    have hcz53_4 : wr.cell? ⟨gb167, 4, none⟩ = some (.int .u64 0) := (blk_cell BK167.out 4).trans rfl
                                    have hcz53_5 : wr.cell? ⟨gb167, 5, none⟩ = some (.int .u64 a0_5) := (blk_cell BK167.out 5).trans rfl
                                    have hcz53_6 : wr.cell? ⟨gb167, 6, none⟩ = some (.int .u64 a0_6) := (blk_cell BK167.out 6).trans rfl
                                    have hfz53_0 := blk_frozen BK167.out 0
                                    have hfz53_1 := blk_frozen BK167.out 1
                                    have hfz53_2 := blk_frozen BK167.out 2
                                    have hfz53_3 := blk_frozen BK167.out 3
                                    have hfz53_4 := blk_frozen BK167.out 4
                                    have hfz53_5 := blk_frozen BK167.out 5
                                    have hfz53_6 := blk_frozen BK167.out 6
                                    go_wp2
                                    go_ret
                                    exact ⟨by first | rfl | (simp [errW_none, errW_some] <;> rfl) | (simp [*, errW_none, errW_some] <;> rfl), by repeat (first | (with_reducible first | exact HB.out | apply below_alloc | apply pw_below_drewN | apply below_drew1 | refine below_set ?_ GE167.out | refine below_set ?_ GE169.out) | exact HB.out)⟩
                                · rw [if_neg c42] at H
                                  have c42b0 : (x170002_2 == a0_2) = false := beq_eq_false_iff_ne.mpr c42
                                  have c42b1 : (x170002_2 != a0_2) = true := bne_iff_ne.mpr c42
                                  obtain rfl := Option.some.inj H
                                  have hnb54 := NB169_167.out
                                  have hnc54 := NB167_169.out
                                  have hcz55_0 : wr.cell? ⟨gb169, 0, none⟩ = some (.int .i64 x170000_2) := (blk_cell BK169.out 0).trans rfl
                                  have hcz55_1 : wr.cell? ⟨gb169, 1, none⟩ = some (.int .u64 x170001_2) := (blk_cell BK169.out 1).trans rfl
                                  have hcz55_2 : wr.cell? ⟨gb169, 2, none⟩ = some (.int .u64 x170002_2) := (blk_cell BK169.out 2).trans rfl
                                  have hcz55_3 : wr.cell? ⟨gb169, 3, none⟩ = some (.int .u64 x170003_2) := (blk_cell BK169.out 3).trans rfl
                                  have hcz55_4 : wr.cell? ⟨gb169, 4, none⟩ = some (.int .u64 x170004_2) := (blk_cell BK169.out 4).trans rfl
                                  have hcz55_5 : wr.cell? ⟨gb169, 5, none⟩ = some (.int .u64 x170005_2) := (blk_cell BK169.out 5).trans rfl
                                  have hcz55_6 : wr.cell? ⟨gb169, 6, none⟩ = some (.int .u64 x170006_2) := (blk_cell BK169.out 6).trans rfl
                                  have hfz55_0 := blk_frozen BK169.out 0
                                  have hfz55_1 := blk_frozen BK169.out 1
                                  have hfz55_2 := blk_frozen BK169.out 2
                                  have hfz55_3 := blk_frozen BK169.out 3
                                  have hfz55_4 := blk_frozen BK169.out 4
                                  have hfz55_5 := blk_frozen BK169.out 5
                                  have hfz55_6 := blk_frozen BK169.out 6
                                  have hcz56_0 : wr.cell? ⟨gb167, 0, none⟩ = some (.int .i64 a0_0) := (blk_cell BK167.out 0).trans rfl
                                  have hcz56_1 : wr.cell? ⟨gb167, 1, none⟩ = some (.int .u64 a0_1) := (blk_cell BK167.out 1).trans rfl
                                  have hcz56_2 : wr.cell? ⟨gb167, 2, none⟩ = some (.int .u64 a0_2) := (blk_cell BK167.out 2).trans rfl
                                  have hcz56_3 : wr.cell? ⟨gb167, 3, none⟩ = some (.int .u64 a0_3) := (blk_cell BK167.out 3).trans rfl
                                  have hcz56_4 : wr.cell? ⟨gb167, 4, none⟩ = some (.int .u64 0) := (blk_cell BK167.out 4).trans rfl
                                  have hcz56_5 : wr.cell? ⟨gb167, 5, none⟩ = some (.int .u64 a0_5) := (blk_cell BK167.out 5).trans rfl
                                  have hcz56_6 : wr.cell? ⟨gb167, 6, none⟩ = some (.int .u64 a0_6) := (blk_cell BK167.out 6).trans rfl
                                  have hfz56_0 := blk_frozen BK167.out 0
                                  have hfz56_1 := blk_frozen BK167.out 1
                                  have hfz56_2 := blk_frozen BK167.out 2
                                  have hfz56_3 := blk_frozen BK167.out 3
                                  have hfz56_4 := blk_frozen BK167.out 4
                                  have hfz56_5 := blk_frozen BK167.out 5
                                  have hfz56_6 := blk_frozen BK167.out 6
                                  go_wp2
                                  go_ret
                                  exact ⟨by first | rfl | (simp [errW_none, errW_some] <;> rfl) | (simp [*, errW_none, errW_some] <;> rfl), by repeat (first | (with_reducible first | exact HB.out | apply below_alloc | apply pw_below_drewN | apply below_drew1 | refine below_set ?_ GE167.out | refine below_set ?_ GE169.out) | exact HB.out)⟩
                              · rw [if_neg c41] at H
                                have c41b0 : (x170001_2 == a0_1) = false := beq_eq_false_iff_ne.mpr c41
                                have c41b1 : (x170001_2 != a0_1) = true := bne_iff_ne.mpr c41
                                obtain rfl := Option.some.inj H
                                have hnb57 := NB169_167.out
                                have hnc57 := NB167_169.out
                                have hcz58_0 : wr.cell? ⟨gb169, 0, none⟩ = some (.int .i64 x170000_2) := (blk_cell BK169.out 0).trans rfl
                                have hcz58_1 : wr.cell? ⟨gb169, 1, none⟩ = some (.int .u64 x170001_2) := (blk_cell BK169.out 1).trans rfl
                                have hcz58_2 : wr.cell? ⟨gb169, 2, none⟩ = some (.int .u64 x170002_2) := (blk_cell BK169.out 2).trans rfl
                                have hcz58_3 : wr.cell? ⟨gb169, 3, none⟩ = some (.int .u64 x170003_2) := (blk_cell BK169.out 3).trans rfl
                                have hcz58_4 : wr.cell? ⟨gb169, 4, none⟩ = some (.int .u64 x170004_2) := (blk_cell BK169.out 4).trans rfl
                                have hcz58_5 : wr.cell? ⟨gb169, 5, none⟩ = some (.int .u64 x170005_2) := (blk_cell BK169.out 5).trans rfl
                                have hcz58_6 : wr.cell? ⟨gb169, 6, none⟩ = some (.int .u64 x170006_2) := (blk_cell BK169.out 6).trans rfl
                                have hfz58_0 := blk_frozen BK169.out 0
                                have hfz58_1 := blk_frozen BK169.out 1
                                have hfz58_2 := blk_frozen BK169.out 2
                                have hfz58_3 := blk_frozen BK169.out 3
                                have hfz58_4 := blk_frozen BK169.out 4
                                have hfz58_5 := blk_frozen BK169.out 5
                                have hfz58_6 := blk_frozen BK169.out 6
                                have hcz59_0 : wr.cell? ⟨gb167, 0, none⟩ = some (.int .i64 a0_0) := (blk_cell BK167.out 0).trans rfl
                                have hcz59_1 : wr.cell? ⟨gb167, 1, none⟩ = some (.int .u64 a0_1) := (blk_cell BK167.out 1).trans rfl
                                have hcz59_2 : wr.cell? ⟨gb167, 2, none⟩ = some (.int .u64 a0_2) := (blk_cell BK167.out 2).trans rfl
                                have hcz59_3 : wr.cell? ⟨gb167, 3, none⟩ = some (.int .u64 a0_3) := (blk_cell BK167.out 3).trans rfl
                                have hcz59_4 : wr.cell? ⟨gb167, 4, none⟩ = some (.int .u64 0) := (blk_cell BK167.out 4).trans rfl
                                have hcz59_5 : wr.cell? ⟨gb167, 5, none⟩ = some (.int .u64 a0_5) := (blk_cell BK167.out 5).trans rfl
                                have hcz59_6 : wr.cell? ⟨gb167, 6, none⟩ = some (.int .u64 a0_6) := (blk_cell BK167.out 6).trans rfl
                                have hfz59_0 := blk_frozen BK167.out 0
                                have hfz59_1 := blk_frozen BK167.out 1
                                have hfz59_2 := blk_frozen BK167.out 2
                                have hfz59_3 := blk_frozen BK167.out 3
                                have hfz59_4 := blk_frozen BK167.out 4
                                have hfz59_5 := blk_frozen BK167.out 5
                                have hfz59_6 := blk_frozen BK167.out 6
                                go_wp2
                                go_ret
                                exact ⟨by first | rfl | (simp [errW_none, errW_some] <;> rfl) | (simp [*, errW_none, errW_some] <;> rfl), by repeat (first | (with_reducible first | exact HB.out | apply below_alloc | apply pw_below_drewN | apply below_drew1 | refine below_set ?_ GE167.out | refine below_set ?_ GE169.out) | exact HB.out)⟩
                            · rw [if_neg c40] at H
                              have c40b0 : (x170000_2 == a0_0) = false := beq_eq_false_iff_ne.mpr c40
                              have c40b1 : (x170000_2 != a0_0) = true := bne_iff_ne.mpr c40
                              obtain rfl := Option.some.inj H
                              have hnb60 := NB169_167.out
                              have hnc60 := NB167_169.out
                              have hcz61_0 : wr.cell? ⟨gb169, 0, none⟩ = some (.int .i64 x170000_2) := (blk_cell BK169.out 0).trans rfl
                              have hcz61_1 : wr.cell? ⟨gb169, 1, none⟩ = some (.int .u64 x170001_2) := (blk_cell BK169.out 1).trans rfl
                              have hcz61_2 : wr.cell? ⟨gb169, 2, none⟩ = some (.int .u64 x170002_2) := (blk_cell BK169.out 2).trans rfl
                              have hcz61_3 : wr.cell? ⟨gb169, 3, none⟩ = some (.int .u64 x170003_2) := (blk_cell BK169.out 3).trans rfl
                              have hcz61_4 : wr.cell? ⟨gb169, 4, none⟩ = some (.int .u64 x170004_2) := (blk_cell BK169.out 4).trans rfl
                              have hcz61_5 : wr.cell? ⟨gb169, 5, none⟩ = some (.int .u64 x170005_2) := (blk_cell BK169.out 5).trans rfl
                              have hcz61_6 : wr.cell? ⟨gb169, 6, none⟩ = some (.int .u64 x170006_2) := (blk_cell BK169.out 6).trans rfl
                              have hfz61_0 := blk_frozen BK169.out 0
                              have hfz61_1 := blk_frozen BK169.out 1
                              have hfz61_2 := blk_frozen BK169.out 2
                              have hfz61_3 := blk_frozen BK169.out 3
                              have hfz61_4 := blk_frozen BK169.out 4
                              have hfz61_5 := blk_frozen BK169.out 5
                              have hfz61_6 := blk_frozen BK169.out 6
                              have hcz62_0 : wr.cell? ⟨gb167, 0, none⟩ = some (.int .i64 a0_0) := (blk_cell BK167.out 0).trans rfl
                              have hcz62_1 : wr.cell? ⟨gb167, 1, none⟩ = some (.int .u64 a0_1) := (blk_cell BK167.out 1).trans rfl
                              have hcz62_2 : wr.cell? ⟨gb167, 2, none⟩ = some (.int .u64 a0_2) := (blk_cell BK167.out 2).trans rfl
                              have hcz62_3 : wr.cell? ⟨gb167, 3, none⟩ = some (.int .u64 a0_3) := (blk_cell BK167.out 3).trans rfl
                              have hcz62_4 : wr.cell? ⟨gb167, 4, none⟩ = some (.int .u64 0) := (blk_cell BK167.out 4).trans rfl
                              have hcz62_5 : wr.cell? ⟨gb167, 5, none⟩ = some (.int .u64 a0_5) := (blk_cell BK167.out 5).trans rfl
                              have hcz62_6 : wr.cell? ⟨gb167, 6, none⟩ = some (.int .u64 a0_6) := (blk_cell BK167.out 6).trans rfl
                              have hfz62_0 := blk_frozen BK167.out 0
                              have hfz62_1 := blk_frozen BK167.out 1
                              have hfz62_2 := blk_frozen BK167.out 2
                              have hfz62_3 := blk_frozen BK167.out 3
                              have hfz62_4 := blk_frozen BK167.out 4
                              have hfz62_5 := blk_frozen BK167.out 5
                              have hfz62_6 := blk_frozen BK167.out 6
                              go_wp2
                              go_ret
                              exact ⟨by first | rfl | (simp [errW_none, errW_some] <;> rfl) | (simp [*, errW_none, errW_some] <;> rfl), by repeat (first | (with_reducible first | exact HB.out | apply below_alloc | apply pw_below_drewN | apply below_drew1 | refine below_set ?_ GE167.out | refine below_set ?_ GE169.out) | exact HB.out)⟩
                          · replace c39 := Bool.eq_false_iff.mpr c39
                            subst c39
                            have H1 : (some false) = some r := by rw [if_neg (show ¬ (false = true) by decide)] at H; exact H
                            clear H
                            have H := H1
                            clear H1
                            obtain rfl := Option.some.inj H
                            go_wp2
                            go_ret
                            exact ⟨by first | rfl | (simp [errW_none, errW_some] <;> rfl) | (simp [*, errW_none, errW_some] <;> rfl), by repeat (first | (with_reducible first | exact HB.out | apply below_alloc | apply pw_below_drewN | apply below_drew1 | refine below_set ?_ GE167.out | refine below_set ?_ GE169.out) | exact HB.out)⟩
                      · rw [if_neg c35] at H
                        have c35b0 : decide (x11_4 < (l2.length : Int)) = false := decide_eq_false c35
                        clear c35
                        by_cases c63 : t168 = true
                        · subst c63
                          have H1 : (if x170000_2 = a0_0 then (if x170001_2 = a0_1 then (if x170002_2 = a0_2 then (if x170005_2 = a0_5 then (if x170006_2 = a0_6 then (some (x170003_2 == x10_4)) else (some false)) else (some false)) else (some false)) else (some false)) else (some false)) = some r := by rw [if_pos rfl] at H; exact H
                          clear H
                          have H := H1
                          clear H1
                          by_cases c64 : x170000_2 = a0_0
                          · rw [if_pos c64] at H
                            have c64b0 : (x170000_2 == a0_0) = true := beq_iff_eq.mpr c64
                            have c64b1 : (x170000_2 != a0_0) = false := bne_eq_false_iff_eq.mpr c64
                            clear c64
                            by_cases c65 : x170001_2 = a0_1
                            · rw [if_pos c65] at H
                              have c65b0 : (x170001_2 == a0_1) = true := beq_iff_eq.mpr c65
                              have c65b1 : (x170001_2 != a0_1) = false := bne_eq_false_iff_eq.mpr c65
                              clear c65
                              by_cases c66 : x170002_2 = a0_2
                              · rw [if_pos c66] at H
                                have c66b0 : (x170002_2 == a0_2) = true := beq_iff_eq.mpr c66
                                have c66b1 : (x170002_2 != a0_2) = false := bne_eq_false_iff_eq.mpr c66
                                clear c66
                                by_cases c67 : x170005_2 = a0_5
                                · rw [if_pos c67] at H
                                  have c67b0 : (x170005_2 == a0_5) = true := beq_iff_eq.mpr c67
                                  have c67b1 : (x170005_2 != a0_5) = false := bne_eq_false_iff_eq.mpr c67
                                  clear c67
                                  by_cases c68 : x170006_2 = a0_6
                                  · rw [if_pos c68] at H
                                    have c68b0 : (x170006_2 == a0_6) = true := beq_iff_eq.mpr c68
                                    have c68b1 : (x170006_2 != a0_6) = false := bne_eq_false_iff_eq.mpr c68
                                    clear c68
                                    obtain rfl := Option.some.inj H
                                    have hnb69 := NB169_167.out
                                    have hnc69 := NB167_169.out
                                    have hcz70_0 : wr.cell? ⟨gb169, 0, none⟩ = some (.int .i64 x170000_2) := (blk_cell BK169.out 0).trans rfl
                                    have hcz70_1 : wr.cell? ⟨gb169, 1, none⟩ = some (.int .u64 x170001_2) := (blk_cell BK169.out 1).trans rfl
                                    have hcz70_2 : wr.cell? ⟨gb169, 2, none⟩ = some (.int .u64 x170002_2) := (blk_cell BK169.out 2).trans rfl
                                    have hcz70_3 : wr.cell? ⟨gb169, 3, none⟩ = some (.int .u64 x170003_2) := (blk_cell BK169.out 3).trans rfl
                                    have hcz70_4 : wr.cell? ⟨gb169, 4, none⟩ = some (.int .u64 x170004_2) := (blk_cell BK169.out 4).trans rfl
                                    have hcz70_5 : wr.cell? ⟨gb169, 5, none⟩ = some (.int .u64 x170005_2) := (blk_cell BK169.out 5).trans rfl
                                    have hcz70_6 : wr.cell? ⟨gb169, 6, none⟩ = some (.int .u64 x170006_2) := (blk_cell BK169.out 6).trans rfl
                                    have hfz70_0 := blk_frozen BK169.out 0
                                    have hfz70_1 := blk_frozen BK169.out 1
                                    have hfz70_2 := blk_frozen BK169.out 2
                                    have hfz70_3 := blk_frozen BK169.out 3
                                    have hfz70_4 := blk_frozen BK169.out 4
                                    have hfz70_5 := blk_frozen BK169.out 5
                                    have hfz70_6 := blk_frozen BK169.out 6
                                    have hcz71_0 : wr.cell? ⟨gb167, 0, none⟩ = some (.int .i64 a0_0) := (blk_cell BK167.out 0).trans rfl
                                    have hcz71_1 : wr.cell? ⟨gb167, 1, none⟩ = some (.int .u64 a0_1) := (blk_cell BK167.out 1).trans rfl
                                    have hcz71_2 : wr.cell? ⟨gb167, 2, none⟩ = some (.int .u64 a0_2) := (blk_cell BK167.out 2).trans rfl
                                    have hcz71_3 : wr.cell? ⟨gb167, 3, none⟩ = some (.int .u64 a0_3) := (blk_cell BK167.out 3).trans rfl
                                    have hcz71_4 : wr.cell? ⟨gb167, 4, none⟩ = some (.int .u64 0) := (blk_cell BK167.out 4).trans rfl
                                    have hcz71_5 : wr.cell? ⟨gb167, 5, none⟩ = some (.int .u64 a0_5) := (blk_cell BK167.out 5).trans rfl
                                    have hcz71_6 : wr.cell? ⟨gb167, 6, none⟩ = some (.int .u64 a0_6) := (blk_cell BK167.out 6).trans rfl
                                    have hfz71_0 := blk_frozen BK167.out 0
                                    have hfz71_1 := blk_frozen BK167.out 1
                                    have hfz71_2 := blk_frozen BK167.out 2
                                    have hfz71_3 := blk_frozen BK167.out 3
                                    have hfz71_4 := blk_frozen BK167.out 4
                                    have hfz71_5 := blk_frozen BK167.out 5
                                    have hfz71_6 := blk_frozen BK167.out 6
                                    go_wp2
                                    go_ret
                                    exact ⟨by first | rfl | (simp [errW_none, errW_some] <;> rfl) | (simp [*, errW_none, errW_some] <;> rfl), by repeat (first | (with_reducible first | exact HB.out | apply below_alloc | apply pw_below_drewN | apply below_drew1 | refine below_set ?_ GE167.out | refine below_set ?_ GE169.out) | exact HB.out)⟩
                                  · rw [if_neg c68] at H
                                    have c68b0 : (x170006_2 == a0_6) = false := beq_eq_false_iff_ne.mpr c68
                                    have c68b1 : (x170006_2 != a0_6) = true := bne_iff_ne.mpr c68
                                    obtain rfl := Option.some.inj H
                                    have hnb72 := NB169_167.out
                                    have hnc72 := NB167_169.out
                                    have hcz73_0 : wr.cell? ⟨gb169, 0, none⟩ = some (.int .i64 x170000_2) := (blk_cell BK169.out 0).trans rfl
                                    have hcz73_1 : wr.cell? ⟨gb169, 1, none⟩ = some (.int .u64 x170001_2) := (blk_cell BK169.out 1).trans rfl
                                    have hcz73_2 : wr.cell? ⟨gb169, 2, none⟩ = some (.int .u64 x170002_2) := (blk_cell BK169.out 2).trans rfl
                                    have hcz73_3 : wr.cell? ⟨gb169, 3, none⟩ = some (.int .u64 x170003_2) := (blk_cell BK169.out 3).trans rfl
                                    have hcz73_4 : wr.cell? ⟨gb169, 4, none⟩ = some (.int .u64 x170004_2) := (blk_cell BK169.out 4).trans rfl
                                    have hcz73_5 : wr.cell? ⟨gb169, 5, none⟩ = some (.int .u64 x170005_2) := (blk_cell BK169.out 5).trans rfl
                                    have hcz73_6 : wr.cell? ⟨gb169, 6, none⟩ = some (.int .u64 x170006_2) := (blk_cell BK169.out 6).trans rfl
                                    have hfz73_0 := blk_frozen BK169.out 0
                                    have hfz73_1 := blk_frozen BK169.out 1
                                    have hfz73_2 := blk_frozen BK169.out 2
                                    have hfz73_3 := blk_frozen BK169.out 3
                                    have hfz73_4 := blk_frozen BK169.out 4
                                    have hfz73_5 := blk_frozen BK169.out 5
                                    have hfz73_6 := blk_frozen BK169.out 6
                                    have hcz74_0 : wr.cell? ⟨gb167, 0, none⟩ = some (.int .i64 a0_0) := (blk_cell BK167.out 0).trans rfl
                                    have hcz74_1 : wr.cell? ⟨gb167, 1, none⟩ = some (.int .u64 a0_1) := (blk_cell BK167.out 1).trans rfl
                                    have hcz74_2 : wr.cell? ⟨gb167, 2, none⟩ = some (.int .u64 a0_2) := (blk_cell BK167.out 2).trans rfl
                                    have hcz74_3 : wr.cell? ⟨gb167, 3, none⟩ = some (.int .u64 a0_3) := (blk_cell BK167.out 3).trans rfl
                                    have hcz74_4 : wr.cell? ⟨gb167, 4, none⟩ = some (.int .u64 0) := (blk_cell BK167.out 4).trans rfl
                                    have hcz74_5 : wr.cell? ⟨gb167, 5, none⟩ = some (.int .u64 a0_5) := (blk_cell BK167.out 5).trans rfl
                                    have hcz74_6 : wr.cell? ⟨gb167, 6, none⟩ = some (.int .u64 a0_6) := (blk_cell BK167.out 6).trans rfl
                                    have hfz74_0 := blk_frozen BK167.out 0
                                    have hfz74_1 := blk_frozen BK167.out 1
                                    have hfz74_2 := blk_frozen BK167.out 2
                                    have hfz74_3 := blk_frozen BK167.out 3
                                    have hfz74_4 := blk_frozen BK167.out 4
                                    have hfz74_5 := blk_frozen BK167.out 5
                                    have hfz74_6 := blk_frozen BK167.out 6
                                    go_wp2
                                    go_ret
                                    exact ⟨by first | rfl | (simp [errW_none, errW_some] <;> rfl) | (simp [*, errW_none, errW_some] <;> rfl), by repeat (first | (with_reducible first | exact HB.out | apply below_alloc | apply pw_below_drewN | apply below_drew1 | refine below_set ?_ GE167.out | refine below_set ?_ GE169.out) | exact HB.out)⟩
                                · rw [if_neg c67] at H
                                  have c67b0 : (x170005_2 == a0_5) = false := beq_eq_false_iff_ne.mpr c67
                                  have c67b1 : (x170005_2 != a0_5) = true := bne_iff_ne.mpr c67
                                  obtain rfl := Option.some.inj H
                                  have hnb75 := NB169_167.out
                                  have hnc75 := NB167_169.out
                                  have hcz76_0 : wr.cell? ⟨gb169, 0, none⟩ = some (.int .i64 x170000_2) := (blk_cell BK169.out 0).trans rfl
                                  have hcz76_1 : wr.cell? ⟨gb169, 1, none⟩ = some (.int .u64 x170001_2) := (blk_cell BK169.out 1).trans rfl
                                  have hcz76_2 : wr.cell? ⟨gb169, 2, none⟩ = some (.int .u64 x170002_2) := (blk_cell BK169.out 2).trans rfl
                                  have hcz76_3 : wr.cell? ⟨gb169, 3, none⟩ = some (.int .u64 x170003_2) := (blk_cell BK169.out 3).trans rfl
                                  have hcz76_4 : wr.cell? ⟨gb169, 4, none⟩ = some (.int .u64 x170004_2) := (blk_cell BK169.out 4).trans rfl
                                  have hcz76_5 : wr.cell? ⟨gb169, 5, none⟩ = some (.int .u64 x170005_2) := (blk_cell BK169.out 5).trans rfl
                                  have hcz76_6 : wr.cell? ⟨gb169, 6, none⟩ = some (.int .u64 x170006_2) := (blk_cell BK169.out 6).trans rfl
                                  have hfz76_0 := blk_frozen BK169.out 0
                                  have hfz76_1 := blk_frozen BK169.out 1
                                  have hfz76_2 := blk_frozen BK169.out 2
                                  have hfz76_3 := blk_frozen BK169.out 3
                                  have hfz76_4 := blk_frozen BK169.out 4
                                  have hfz76_5 := blk_frozen BK169.out 5
                                  have hfz76_6 := blk_frozen BK169.out 6
                                  have hcz77_0 : wr.cell? ⟨gb167, 0, none⟩ = some (.int .i64 a0_0) := (blk_cell BK167.out 0).trans rfl
                                  have hcz77_1 : wr.cell? ⟨gb167, 1, none⟩ = some (.int .u64 a0_1) := (blk_cell BK167.out 1).trans rfl
                                  have hcz77_2 : wr.cell? ⟨gb167, 2, none⟩ = some (.int .u64 a0_2) := (blk_cell BK167.out 2).trans rfl
                                  have hcz77_3 : wr.cell? ⟨gb167, 3, none⟩ = some (.int .u64 a0_3) := (blk_cell BK167.out 3).trans rfl
                                  have hcz77_4 : wr.cell? ⟨gb167, 4, none⟩ = some (.int .u64 0) := (blk_cell BK167.out 4).trans rfl
                                  have hcz77_5 : wr.cell? ⟨gb167, 5, none⟩ = some (.int .u64 a0_5) := (blk_cell BK167.out 5).trans rfl
                                  have hcz77_6 : wr.cell? ⟨gb167, 6, none⟩ = some (.int .u64 a0_6) := (blk_cell BK167.out 6).trans rfl
                                  have hfz77_0 := blk_frozen BK167.out 0
                                  have hfz77_1 := blk_frozen BK167.out 1
                                  have hfz77_2 := blk_frozen BK167.out 2
                                  have hfz77_3 := blk_frozen BK167.out 3
                                  have hfz77_4 := blk_frozen BK167.out 4
                                  have hfz77_5 := blk_frozen BK167.out 5
                                  have hfz77_6 := blk_frozen BK167.out 6
                                  go_wp2
                                  go_ret
                                  exact ⟨by first | rfl | (simp [errW_none, errW_some] <;> rfl) | (simp [*, errW_none, errW_some] <;> rfl), by repeat (first | (with_reducible first | exact HB.out | apply below_alloc | apply pw_below_drewN | apply below_drew1 | refine below_set ?_ GE167.out | refine below_set ?_ GE169.out) | exact HB.out)⟩
                              · rw [if_neg c66] at H
                                have c66b0 : (x170002_2 == a0_2) = false := beq_eq_false_iff_ne.mpr c66
                                have c66b1 : (x170002_2 != a0_2) = true := bne_iff_ne.mpr c66
                                obtain rfl := Option.some.inj H
                                have hnb78 := NB169_167.out
                                have hnc78 := NB167_169.out
                                have hcz79_0 : wr.cell? ⟨gb169, 0, none⟩ = some (.int .i64 x170000_2) := (blk_cell BK169.out 0).trans rfl
                                have hcz79_1 : wr.cell? ⟨gb169, 1, none⟩ = some (.int .u64 x170001_2) := (blk_cell BK169.out 1).trans rfl
                                have hcz79_2 : wr.cell? ⟨gb169, 2, none⟩ = some (.int .u64 x170002_2) := (blk_cell BK169.out 2).trans rfl
                                have hcz79_3 : wr.cell? ⟨gb169, 3, none⟩ = some (.int .u64 x170003_2) := (blk_cell BK169.out 3).trans rfl
                                have hcz79_4 : wr.cell? ⟨gb169, 4, none⟩ = some (.int .u64 x170004_2) := (blk_cell BK169.out 4).trans rfl
                                have hcz79_5 : wr.cell? ⟨gb169, 5, none⟩ = some (.int .u64 x170005_2) := (blk_cell BK169.out 5).trans rfl
                                have hcz79_6 : wr.cell? ⟨gb169, 6, none⟩ = some (.int .u64 x170006_2) := (blk_cell BK169.out 6).trans rfl
                                have hfz79_0 := blk_frozen BK169.out 0
                                have hfz79_1 := blk_frozen BK169.out 1
                                have hfz79_2 := blk_frozen BK169.out 2
                                have hfz79_3 := blk_frozen BK169.out 3
                                have hfz79_4 := blk_frozen BK169.out 4
                                have hfz79_5 := blk_frozen BK169.out 5
                                have hfz79_6 := blk_frozen BK169.out 6
                                have hcz80_0 : wr.cell? ⟨gb167, 0, none⟩ = some (.int .i64 a0_0) := (blk_cell BK167.out 0).trans rfl
                                have hcz80_1 : wr.cell? ⟨gb167, 1, none⟩ = some (.int .u64 a0_1) := (blk_cell BK167.out 1).trans rfl
                                have hcz80_2 : wr.cell? ⟨gb167, 2, none⟩ = some (.int .u64 a0_2) := (blk_cell BK167.out 2).trans rfl
                                have hcz80_3 : wr.cell? ⟨gb167, 3, none⟩ = some (.int .u64 a0_3) := (blk_cell BK167.out 3).trans rfl
                                have hcz80_4 : wr.cell? ⟨gb167, 4, none⟩ = some (.int .u64 0) := (blk_cell BK167.out 4).trans rfl
                                have hcz80_5 : wr.cell? ⟨gb167, 5, none⟩ = some (.int .u64 a0_5) := (blk_cell BK167.out 5).trans rfl
                                have hcz80_6 : wr.cell? ⟨gb167, 6, none⟩ = some (.int .u64 a0_6) := (blk_cell BK167.out 6).trans rfl
                                have hfz80_0 := blk_frozen BK167.out 0
                                have hfz80_1 := blk_frozen BK167.out 1
                                have hfz80_2 := blk_frozen BK167.out 2
                                have hfz80_3 := blk_frozen BK167.out 3
                                have hfz80_4 := blk_frozen BK167.out 4
                                have hfz80_5 := blk_frozen BK167.out 5
                                have hfz80_6 := blk_frozen BK167.out 6
                                go_wp2
                                go_ret
                                exact ⟨by first | rfl | (simp [errW_none, errW_some] <;> rfl) | (simp [*, errW_none, errW_some] <;> rfl), by repeat (first | (with_reducible first | exact HB.out | apply below_alloc | apply pw_below_drewN | apply below_drew1 | refine below_set ?_ GE167.out | refine below_set ?_ GE169.out) | exact HB.out)⟩
                            · rw [if_neg c65] at H
                              have c65b0 : (x170001_2 == a0_1) = false := beq_eq_false_iff_ne.mpr c65
                              have c65b1 : (x170001_2 != a0_1) = true := bne_iff_ne.mpr c65
                              obtain rfl := Option.some.inj H
                              have hnb81 := NB169_167.out
                              have hnc81 := NB167_169.out
                              have hcz82_0 : wr.cell? ⟨gb169, 0, none⟩ = some (.int .i64 x170000_2) := (blk_cell BK169.out 0).trans rfl
                              have hcz82_1 : wr.cell? ⟨gb169, 1, none⟩ = some (.int .u64 x170001_2) := (blk_cell BK169.out 1).trans rfl
                              have hcz82_2 : wr.cell? ⟨gb169, 2, none⟩ = some (.int .u64 x170002_2) := (blk_cell BK169.out 2).trans rfl
                              have hcz82_3 : wr.cell? ⟨gb169, 3, none⟩ = some (.int .u64 x170003_2) := (blk_cell BK169.out 3).trans rfl
                              have hcz82_4 : wr.cell? ⟨gb169, 4, none⟩ = some (.int .u64 x170004_2) := (blk_cell BK169.out 4).trans rfl
                              have hcz82_5 : wr.cell? ⟨gb169, 5, none⟩ = some (.int .u64 x170005_2) := (blk_cell BK169.out 5).trans rfl
                              have hcz82_6 : wr.cell? ⟨gb169, 6, none⟩ = some (.int .u64 x170006_2) := (blk_cell BK169.out 6).trans rfl
                              have hfz82_0 := blk_frozen BK169.out 0
                              have hfz82_1 := blk_frozen BK169.out 1
                              have hfz82_2 := blk_frozen BK169.out 2
                              have hfz82_3 := blk_frozen BK169.out 3
                              have hfz82_4 := blk_frozen BK169.out 4
                              have hfz82_5 := blk_frozen BK169.out 5
                              have hfz82_6 := blk_frozen BK169.out 6
                              have hcz83_0 : wr.cell? ⟨gb167, 0, none⟩ = some (.int .i64 a0_0) := (blk_cell BK167.out 0).trans rfl
                              have hcz83_1 : wr.cell? ⟨gb167, 1, none⟩ = some (.int .u64 a0_1) := (blk_cell BK167.out 1).trans rfl
                              have hcz83_2 : wr.cell? ⟨gb167, 2, none⟩ = some (.int .u64 a0_2) := (blk_cell BK167.out 2).trans rfl
                              have hcz83_3 : wr.cell? ⟨gb167, 3, none⟩ = some (.int .u64 a0_3) := (blk_cell BK167.out 3).trans rfl
                              have hcz83_4 : wr.cell? ⟨gb167, 4, none⟩ = some (.int .u64 0) := (blk_cell BK167.out 4).trans rfl
                              have hcz83_5 : wr.cell? ⟨gb167, 5, none⟩ = some (.int .u64 a0_5) := (blk_cell BK167.out 5).trans rfl
                              have hcz83_6 : wr.cell? ⟨gb167, 6, none⟩ = some (.int .u64 a0_6) := (blk_cell BK167.out 6).trans rfl
                              have hfz83_0 := blk_frozen BK167.out 0
                              have hfz83_1 := blk_frozen BK167.out 1
                              have hfz83_2 := blk_frozen BK167.out 2
                              have hfz83_3 := blk_frozen BK167.out 3
                              have hfz83_4 := blk_frozen BK167.out 4
                              have hfz83_5 := blk_frozen BK167.out 5
                              have hfz83_6 := blk_frozen BK167.out 6
                              go_wp2
                              go_ret
                              exact ⟨by first | rfl | (simp [errW_none, errW_some] <;> rfl) | (simp [*, errW_none, errW_some] <;> rfl), by repeat (first | (with_reducible first | exact HB.out | apply below_alloc | apply pw_below_drewN | apply below_drew1 | refine below_set ?_ GE167.out | refine below_set ?_ GE169.out) | exact HB.out)⟩
                          · rw [if_neg c64] at H
                            have c64b0 : (x170000_2 == a0_0) = false := beq_eq_false_iff_ne.mpr c64
                            have c64b1 : (x170000_2 != a0_0) = true := bne_iff_ne.mpr c64
                            obtain rfl := Option.some.inj H
                            have hnb84 := NB169_167.out
                            have hnc84 := NB167_169.out
                            have hcz85_0 : wr.cell? ⟨gb169, 0, none⟩ = some (.int .i64 x170000_2) := (blk_cell BK169.out 0).trans rfl
                            have hcz85_1 : wr.cell? ⟨gb169, 1, none⟩ = some (.int .u64 x170001_2) := (blk_cell BK169.out 1).trans rfl
                            have hcz85_2 : wr.cell? ⟨gb169, 2, none⟩ = some (.int .u64 x170002_2) := (blk_cell BK169.out 2).trans rfl
                            have hcz85_3 : wr.cell? ⟨gb169, 3, none⟩ = some (.int .u64 x170003_2) := (blk_cell BK169.out 3).trans rfl
                            have hcz85_4 : wr.cell? ⟨gb169, 4, none⟩ = some (.int .u64 x170004_2) := (blk_cell BK169.out 4).trans rfl
                            have hcz85_5 : wr.cell? ⟨gb169, 5, none⟩ = some (.int .u64 x170005_2) := (blk_cell BK169.out 5).trans rfl
                            have hcz85_6 : wr.cell? ⟨gb169, 6, none⟩ = some (.int .u64 x170006_2) := (blk_cell BK169.out 6).trans rfl
                            have hfz85_0 := blk_frozen BK169.out 0
                            have hfz85_1 := blk_frozen BK169.out 1
                            have hfz85_2 := blk_frozen BK169.out 2
                            have hfz85_3 := blk_frozen BK169.out 3
                            have hfz85_4 := blk_frozen BK169.out 4
                            have hfz85_5 := blk_frozen BK169.out 5
                            have hfz85_6 := blk_frozen BK169.out 6
                            have hcz86_0 : wr.cell? ⟨gb167, 0, none⟩ = some (.int .i64 a0_0) := (blk_cell BK167.out 0).trans rfl
                            have hcz86_1 : wr.cell? ⟨gb167, 1, none⟩ = some (.int .u64 a0_1) := (blk_cell BK167.out 1).trans rfl
                            have hcz86_2 : wr.cell? ⟨gb167, 2, none⟩ = some (.int .u64 a0_2) := (blk_cell BK167.out 2).trans rfl
                            have hcz86_3 : wr.cell? ⟨gb167, 3, none⟩ = some (.int .u64 a0_3) := (blk_cell BK167.out 3).trans rfl
                            have hcz86_4 : wr.cell? ⟨gb167, 4, none⟩ = some (.int .u64 0) := (blk_cell BK167.out 4).trans rfl
                            have hcz86_5 : wr.cell? ⟨gb167, 5, none⟩ = some (.int .u64 a0_5) := (blk_cell BK167.out 5).trans rfl
                            have hcz86_6 : wr.cell? ⟨gb167, 6, none⟩ = some (.int .u64 a0_6) := (blk_cell BK167.out 6).trans rfl
                            have hfz86_0 := blk_frozen BK167.out 0
                            have hfz86_1 := blk_frozen BK167.out 1
                            have hfz86_2 := blk_frozen BK167.out 2
                            have hfz86_3 := blk_frozen BK167.out 3
                            have hfz86_4 := blk_frozen BK167.out 4
                            have hfz86_5 := blk_frozen BK167.out 5
                            have hfz86_6 := blk_frozen BK167.out 6
                            go_wp2
                            go_ret
                            exact ⟨by first | rfl | (simp [errW_none, errW_some] <;> rfl) | (simp [*, errW_none, errW_some] <;> rfl), by repeat (first | (with_reducible first | exact HB.out | apply below_alloc | apply pw_below_drewN | apply below_drew1 | refine below_set ?_ GE167.out | refine below_set ?_ GE169.out) | exact HB.out)⟩
                        · replace c63 := Bool.eq_false_iff.mpr c63
                          subst c63
                          have H1 : (some false) = some r := by rw [if_neg (show ¬ (false = true) by decide)] at H; exact H
                          clear H
                          have H := H1
                          clear H1
                          obtain rfl := Option.some.inj H
                          go_wp2
                          go_ret
                          exact ⟨by first | rfl | (simp [errW_none, errW_some] <;> rfl) | (simp [*, errW_none, errW_some] <;> rfl), by repeat (first | (with_reducible first | exact HB.out | apply below_alloc | apply pw_below_drewN | apply below_drew1 | refine below_set ?_ GE167.out | refine below_set ?_ GE169.out) | exact HB.out)⟩

end Go.Proofs.Ythclohjlbajclaa.P
