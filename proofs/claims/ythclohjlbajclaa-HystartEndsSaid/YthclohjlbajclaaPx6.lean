-- Printed for this claim by xprint.py of this session: contracts of this session's own stand in for what the print does not take
import Derived.Test.YthclohjlbajclaaPx0
import Derived.Test.YthclohjlbajclaaPx1
import Derived.Test.YthclohjlbajclaaPx3
import Derived.Test.YthclohjlbajclaaPx4
import Derived.Test.YthclohjlbajclaaPx5
namespace Go.Proofs.Ythclohjlbajclaa.P
open Go.RowKit Go.Proofs.YthclohjlbajclaaW.PrintWords Go.Proofs.YthclohjlbajclaaW.PrintLast Go.Proofs.YthclohjlbajclaaW.PrintMore
attribute [local go_sem] max2_int min2_int max_two min_two max_three min_three max_four min_four   -- for this text's walks alone
set_option linter.unusedVariables false
set_option linter.unusedSimpArgs false

attribute [local go_sem high] eqA25
/-! ### wigwaglaw11_HystartEnds: function 5 -/
mutual
def wigwaglaw11_HystartEnds.l0 : Nat → List (S33) → Bool → Int → Int → Int → Int → Int → Int → Int → Int → Int → Option (Bool)
  | 0, _, _, _, _, _, _, _, _, _, _, _ => none
  | k + 1, x1, x5, x7, x8, x154000, x154001, x154002, x154003, x154004, x154005, x154006 => if x8 < (x1.length : Int) then (wigwaglaw11_HystartEnds.j1 k x1 x5 x7 x8 (decide (x8 < 200)) x154000 x154001 x154002 x154003 x154004 x154005 x154006) else (wigwaglaw11_HystartEnds.j1 k x1 x5 x7 x8 false x154000 x154001 x154002 x154003 x154004 x154005 x154006)
def wigwaglaw11_HystartEnds.j1 : Nat → List (S33) → Bool → Int → Int → Bool → Int → Int → Int → Int → Int → Int → Int → Option (Bool)
  | 0, _, _, _, _, _, _, _, _, _, _, _, _ => none
  | k + 1, x1, x5, x7, x8, x20, x154000, x154001, x154002, x154003, x154004, x154005, x154006 => if x20 = true then (if 0 ≤ x8 then (if x8 < (x1.length : Int) then ((hystart_Sample.f k x154000 x154001 x154002 x154003 x154004 x154005 x154006 ((rd_T33 x1 x8).f0) ((rd_T33 x1 x8).f1) ((rd_T33 x1 x8).f2)).bind fun bt158 => (if x154000 = 2 then (if (!(bt158.1 == x154000) || (!(bt158.2.1 == x154001) || (!(bt158.2.2.1 == x154002) || (!(bt158.2.2.2.1 == x154003) || (!(bt158.2.2.2.2.1 == x154004) || (!(bt158.2.2.2.2.2.1 == x154005) || (!(bt158.2.2.2.2.2.2 == x154006)))))))) = true then (some false) else (wigwaglaw11_HystartEnds.l0 k x1 x5 x7 (wrap64 (x8 + 1)) bt158.1 bt158.2.1 bt158.2.2.1 bt158.2.2.2.1 bt158.2.2.2.2.1 bt158.2.2.2.2.2.1 bt158.2.2.2.2.2.2)) else (if ((rd_T33 x1 x8).f0) ≥ x154001 then (wigwaglaw11_HystartEnds.j2 k x1 x5 18446744073709551615 x8 bt158.1 bt158.2.1 bt158.2.2.1 bt158.2.2.2.1 bt158.2.2.2.2.1 bt158.2.2.2.2.2.1 bt158.2.2.2.2.2.2 x154000 x154001 x154002 x154003 x154004 x154005 x154006) else (wigwaglaw11_HystartEnds.j2 k x1 x5 x7 x8 bt158.1 bt158.2.1 bt158.2.2.1 bt158.2.2.2.1 bt158.2.2.2.2.1 bt158.2.2.2.2.2.1 bt158.2.2.2.2.2.2 x154000 x154001 x154002 x154003 x154004 x154005 x154006)))) else (none)) else (none)) else (some x5)
def wigwaglaw11_HystartEnds.j2 : Nat → List (S33) → Bool → Int → Int → Int → Int → Int → Int → Int → Int → Int → Int → Int → Int → Int → Int → Int → Int → Option (Bool)
  | 0, _, _, _, _, _, _, _, _, _, _, _, _, _, _, _, _, _, _ => none
  | k + 1, x1, x5, x7, x8, x154000, x154001, x154002, x154003, x154004, x154005, x154006, x155000, x155001, x155002, x155003, x155004, x155005, x155006 => if 0 ≤ x8 then (if x8 < (x1.length : Int) then (if x154000 = 2 then (if x154006 > 5 then (wigwaglaw11_HystartEnds.j3 k x1 x5 (mn x7 ((rd_T33 x1 x8).f2)) x8 true x154000 x154001 x154002 x154003 x154004 x154005 x154006 x155000 x155001 x155002 x155003 x155004 x155005 x155006) else (if x154000 < 0 then (wigwaglaw11_HystartEnds.j3 k x1 x5 (mn x7 ((rd_T33 x1 x8).f2)) x8 true x154000 x154001 x154002 x154003 x154004 x154005 x154006 x155000 x155001 x155002 x155003 x155004 x155005 x155006) else (wigwaglaw11_HystartEnds.j3 k x1 x5 (mn x7 ((rd_T33 x1 x8).f2)) x8 (decide (x154000 > 2)) x154000 x154001 x154002 x154003 x154004 x154005 x154006 x155000 x155001 x155002 x155003 x155004 x155005 x155006))) else (if x154003 = (mn x7 ((rd_T33 x1 x8).f2)) then (if x154006 > 5 then (wigwaglaw11_HystartEnds.j3 k x1 x5 (mn x7 ((rd_T33 x1 x8).f2)) x8 true x154000 x154001 x154002 x154003 x154004 x154005 x154006 x155000 x155001 x155002 x155003 x155004 x155005 x155006) else (if x154000 < 0 then (wigwaglaw11_HystartEnds.j3 k x1 x5 (mn x7 ((rd_T33 x1 x8).f2)) x8 true x154000 x154001 x154002 x154003 x154004 x154005 x154006 x155000 x155001 x155002 x155003 x155004 x155005 x155006) else (wigwaglaw11_HystartEnds.j3 k x1 x5 (mn x7 ((rd_T33 x1 x8).f2)) x8 (decide (x154000 > 2)) x154000 x154001 x154002 x154003 x154004 x154005 x154006 x155000 x155001 x155002 x155003 x155004 x155005 x155006))) else (wigwaglaw11_HystartEnds.j3 k x1 x5 (mn x7 ((rd_T33 x1 x8).f2)) x8 true x154000 x154001 x154002 x154003 x154004 x154005 x154006 x155000 x155001 x155002 x155003 x155004 x155005 x155006))) else (none)) else (none)
def wigwaglaw11_HystartEnds.j3 : Nat → List (S33) → Bool → Int → Int → Bool → Int → Int → Int → Int → Int → Int → Int → Int → Int → Int → Int → Int → Int → Int → Option (Bool)
  | 0, _, _, _, _, _, _, _, _, _, _, _, _, _, _, _, _, _, _, _ => none
  | k + 1, x1, x5, x7, x8, x85, x154000, x154001, x154002, x154003, x154004, x154005, x154006, x155000, x155001, x155002, x155003, x155004, x155005, x155006 => if x85 = true then (some false) else (if x154000 = 2 then (if x155006 = 4 then (wigwaglaw11_HystartEnds.l0 k x1 x5 x7 (wrap64 (x8 + 1)) x154000 x154001 x154002 x154003 x154004 x154005 x154006) else (some false)) else (wigwaglaw11_HystartEnds.l0 k x1 x5 x7 (wrap64 (x8 + 1)) x154000 x154001 x154002 x154003 x154004 x154005 x154006))
end
def wigwaglaw11_HystartEnds.f (k : Nat) (a0 : Int) (l1 : List (S33)) : Option (Bool) := (wigwaglaw11_awake.f k).bind fun t145 => ((hystart_New.f a0).bind fun bt146 => (wigwaglaw11_HystartEnds.l0 k l1 t145 18446744073709551615 0 bt146.1 bt146.2.1 bt146.2.2.1 bt146.2.2.2.1 bt146.2.2.2.2.1 bt146.2.2.2.2.2.1 bt146.2.2.2.2.2.2))
theorem wigwaglaw11_HystartEnds.mono_l : ∀ k, (∀ y0 y1 y2 y3 y4 y5 y6 y7 y8 y9 y10, LeO (wigwaglaw11_HystartEnds.l0 k y0 y1 y2 y3 y4 y5 y6 y7 y8 y9 y10) (wigwaglaw11_HystartEnds.l0 (k + 1) y0 y1 y2 y3 y4 y5 y6 y7 y8 y9 y10)) ∧ (∀ y0 y1 y2 y3 y4 y5 y6 y7 y8 y9 y10 y11, LeO (wigwaglaw11_HystartEnds.j1 k y0 y1 y2 y3 y4 y5 y6 y7 y8 y9 y10 y11) (wigwaglaw11_HystartEnds.j1 (k + 1) y0 y1 y2 y3 y4 y5 y6 y7 y8 y9 y10 y11)) ∧ (∀ y0 y1 y2 y3 y4 y5 y6 y7 y8 y9 y10 y11 y12 y13 y14 y15 y16 y17, LeO (wigwaglaw11_HystartEnds.j2 k y0 y1 y2 y3 y4 y5 y6 y7 y8 y9 y10 y11 y12 y13 y14 y15 y16 y17) (wigwaglaw11_HystartEnds.j2 (k + 1) y0 y1 y2 y3 y4 y5 y6 y7 y8 y9 y10 y11 y12 y13 y14 y15 y16 y17)) ∧ (∀ y0 y1 y2 y3 y4 y5 y6 y7 y8 y9 y10 y11 y12 y13 y14 y15 y16 y17 y18, LeO (wigwaglaw11_HystartEnds.j3 k y0 y1 y2 y3 y4 y5 y6 y7 y8 y9 y10 y11 y12 y13 y14 y15 y16 y17 y18) (wigwaglaw11_HystartEnds.j3 (k + 1) y0 y1 y2 y3 y4 y5 y6 y7 y8 y9 y10 y11 y12 y13 y14 y15 y16 y17 y18))
  | 0 => ⟨fun _ _ _ _ _ _ _ _ _ _ _ r h => by simp [wigwaglaw11_HystartEnds.l0] at h, fun _ _ _ _ _ _ _ _ _ _ _ _ r h => by simp [wigwaglaw11_HystartEnds.j1] at h, fun _ _ _ _ _ _ _ _ _ _ _ _ _ _ _ _ _ _ r h => by simp [wigwaglaw11_HystartEnds.j2] at h, fun _ _ _ _ _ _ _ _ _ _ _ _ _ _ _ _ _ _ _ r h => by simp [wigwaglaw11_HystartEnds.j3] at h⟩
  | k + 1 => by
    obtain ⟨ih0, ih1, ih2, ih3⟩ := wigwaglaw11_HystartEnds.mono_l k
    refine ⟨?_, ?_, ?_, ?_⟩
    · intro y0 y1 y2 y3 y4 y5 y6 y7 y8 y9 y10
      unfold wigwaglaw11_HystartEnds.l0
      repeat' first
      | (with_reducible exact ih0 _ _ _ _ _ _ _ _ _ _ _)
      | (with_reducible exact ih1 _ _ _ _ _ _ _ _ _ _ _ _)
      | (with_reducible exact ih2 _ _ _ _ _ _ _ _ _ _ _ _ _ _ _ _ _ _)
      | (with_reducible exact ih3 _ _ _ _ _ _ _ _ _ _ _ _ _ _ _ _ _ _ _)
      | (with_reducible exact hystart_Sample.mono _ _ _ _ _ _ _ _ _ _ _)
      | (with_reducible exact wigwaglaw11_awake.mono _)
      | (with_reducible exact LeO.refl _)
      | (with_reducible exact LeO.none _)
      | (with_reducible refine LeO.ite ?_ ?_)
      | (with_reducible refine LeO.bind ?_ (fun _ => ?_))
      | exact ih0 _ _ _ _ _ _ _ _ _ _ _
      | exact ih1 _ _ _ _ _ _ _ _ _ _ _ _
      | exact ih2 _ _ _ _ _ _ _ _ _ _ _ _ _ _ _ _ _ _
      | exact ih3 _ _ _ _ _ _ _ _ _ _ _ _ _ _ _ _ _ _ _
      | exact hystart_Sample.mono _ _ _ _ _ _ _ _ _ _ _
      | exact wigwaglaw11_awake.mono _
      | exact LeO.none _
      | refine LeO.ite ?_ ?_
      | refine LeO.bind ?_ (fun _ => ?_)
    · intro y0 y1 y2 y3 y4 y5 y6 y7 y8 y9 y10 y11
      unfold wigwaglaw11_HystartEnds.j1
      repeat' first
      | (with_reducible exact ih0 _ _ _ _ _ _ _ _ _ _ _)
      | (with_reducible exact ih1 _ _ _ _ _ _ _ _ _ _ _ _)
      | (with_reducible exact ih2 _ _ _ _ _ _ _ _ _ _ _ _ _ _ _ _ _ _)
      | (with_reducible exact ih3 _ _ _ _ _ _ _ _ _ _ _ _ _ _ _ _ _ _ _)
      | (with_reducible exact hystart_Sample.mono _ _ _ _ _ _ _ _ _ _ _)
      | (with_reducible exact wigwaglaw11_awake.mono _)
      | (with_reducible exact LeO.refl _)
      | (with_reducible exact LeO.none _)
      | (with_reducible refine LeO.ite ?_ ?_)
      | (with_reducible refine LeO.bind ?_ (fun _ => ?_))
      | exact ih0 _ _ _ _ _ _ _ _ _ _ _
      | exact ih1 _ _ _ _ _ _ _ _ _ _ _ _
      | exact ih2 _ _ _ _ _ _ _ _ _ _ _ _ _ _ _ _ _ _
      | exact ih3 _ _ _ _ _ _ _ _ _ _ _ _ _ _ _ _ _ _ _
      | exact hystart_Sample.mono _ _ _ _ _ _ _ _ _ _ _
      | exact wigwaglaw11_awake.mono _
      | exact LeO.none _
      | refine LeO.ite ?_ ?_
      | refine LeO.bind ?_ (fun _ => ?_)
    · intro y0 y1 y2 y3 y4 y5 y6 y7 y8 y9 y10 y11 y12 y13 y14 y15 y16 y17
      unfold wigwaglaw11_HystartEnds.j2
      repeat' first
      | (with_reducible exact ih0 _ _ _ _ _ _ _ _ _ _ _)
      | (with_reducible exact ih1 _ _ _ _ _ _ _ _ _ _ _ _)
      | (with_reducible exact ih2 _ _ _ _ _ _ _ _ _ _ _ _ _ _ _ _ _ _)
      | (with_reducible exact ih3 _ _ _ _ _ _ _ _ _ _ _ _ _ _ _ _ _ _ _)
      | (with_reducible exact hystart_Sample.mono _ _ _ _ _ _ _ _ _ _ _)
      | (with_reducible exact wigwaglaw11_awake.mono _)
      | (with_reducible exact LeO.refl _)
      | (with_reducible exact LeO.none _)
      | (with_reducible refine LeO.ite ?_ ?_)
      | (with_reducible refine LeO.bind ?_ (fun _ => ?_))
      | exact ih0 _ _ _ _ _ _ _ _ _ _ _
      | exact ih1 _ _ _ _ _ _ _ _ _ _ _ _
      | exact ih2 _ _ _ _ _ _ _ _ _ _ _ _ _ _ _ _ _ _
      | exact ih3 _ _ _ _ _ _ _ _ _ _ _ _ _ _ _ _ _ _ _
      | exact hystart_Sample.mono _ _ _ _ _ _ _ _ _ _ _
      | exact wigwaglaw11_awake.mono _
      | exact LeO.none _
      | refine LeO.ite ?_ ?_
      | refine LeO.bind ?_ (fun _ => ?_)
    · intro y0 y1 y2 y3 y4 y5 y6 y7 y8 y9 y10 y11 y12 y13 y14 y15 y16 y17 y18
      unfold wigwaglaw11_HystartEnds.j3
      repeat' first
      | (with_reducible exact ih0 _ _ _ _ _ _ _ _ _ _ _)
      | (with_reducible exact ih1 _ _ _ _ _ _ _ _ _ _ _ _)
      | (with_reducible exact ih2 _ _ _ _ _ _ _ _ _ _ _ _ _ _ _ _ _ _)
      | (with_reducible exact ih3 _ _ _ _ _ _ _ _ _ _ _ _ _ _ _ _ _ _ _)
      | (with_reducible exact hystart_Sample.mono _ _ _ _ _ _ _ _ _ _ _)
      | (with_reducible exact wigwaglaw11_awake.mono _)
      | (with_reducible exact LeO.refl _)
      | (with_reducible exact LeO.none _)
      | (with_reducible refine LeO.ite ?_ ?_)
      | (with_reducible refine LeO.bind ?_ (fun _ => ?_))
      | exact ih0 _ _ _ _ _ _ _ _ _ _ _
      | exact ih1 _ _ _ _ _ _ _ _ _ _ _ _
      | exact ih2 _ _ _ _ _ _ _ _ _ _ _ _ _ _ _ _ _ _
      | exact ih3 _ _ _ _ _ _ _ _ _ _ _ _ _ _ _ _ _ _ _
      | exact hystart_Sample.mono _ _ _ _ _ _ _ _ _ _ _
      | exact wigwaglaw11_awake.mono _
      | exact LeO.none _
      | refine LeO.ite ?_ ?_
      | refine LeO.bind ?_ (fun _ => ?_)
theorem wigwaglaw11_HystartEnds.mono : ∀ a0 a1 k, LeO (wigwaglaw11_HystartEnds.f k a0 a1) (wigwaglaw11_HystartEnds.f (k + 1) a0 a1) := by
  intro a0 a1 k
  obtain ⟨ih0, ih1, ih2, ih3⟩ := wigwaglaw11_HystartEnds.mono_l k
  unfold wigwaglaw11_HystartEnds.f
  repeat' first
      | (with_reducible exact ih0 _ _ _ _ _ _ _ _ _ _ _)
      | (with_reducible exact ih1 _ _ _ _ _ _ _ _ _ _ _ _)
      | (with_reducible exact ih2 _ _ _ _ _ _ _ _ _ _ _ _ _ _ _ _ _ _)
      | (with_reducible exact ih3 _ _ _ _ _ _ _ _ _ _ _ _ _ _ _ _ _ _ _)
      | (with_reducible exact hystart_Sample.mono _ _ _ _ _ _ _ _ _ _ _)
      | (with_reducible exact wigwaglaw11_awake.mono _)
      | (with_reducible exact LeO.refl _)
      | (with_reducible exact LeO.none _)
      | (with_reducible refine LeO.ite ?_ ?_)
      | (with_reducible refine LeO.bind ?_ (fun _ => ?_))
      | exact ih0 _ _ _ _ _ _ _ _ _ _ _
      | exact ih1 _ _ _ _ _ _ _ _ _ _ _ _
      | exact ih2 _ _ _ _ _ _ _ _ _ _ _ _ _ _ _ _ _ _
      | exact ih3 _ _ _ _ _ _ _ _ _ _ _ _ _ _ _ _ _ _ _
      | exact hystart_Sample.mono _ _ _ _ _ _ _ _ _ _ _
      | exact wigwaglaw11_awake.mono _
      | exact LeO.none _
      | refine LeO.ite ?_ ?_
      | refine LeO.bind ?_ (fun _ => ?_)
def wigwaglaw11_HystartEnds.T8 : Bool × List (List Nat × List Nat) := (true, [([], []), ([], []), ([], []), ([1, 2], [1, 2]), ([3], [3]), ([4], [4]), ([], []), ([], []), ([6, 7], [6, 7]), ([8], [8]), ([9], [9]), ([], []), ([], []), ([11, 12], [11, 12]), ([13], [13]), ([14], [14]), ([0, 5, 10, 15], [0, 5, 10, 15]), ([16, 16, 0, 1, 2, 3, 4, 5, 6, 7, 8, 9, 10, 11, 12, 13, 14, 15, 16], [16])])
def wigwaglaw11_HystartEnds.B8 : List Nat := [0, 0, 0, 6, 14, 30, 0, 0, 192, 448, 960, 0, 0, 6144, 14336, 30720, 65535, 131071]
theorem wigwaglaw11_HystartEnds.tab8 : rtab .any (opsOf Try.f5 8) = wigwaglaw11_HystartEnds.T8 := by kernel_rfl
theorem wigwaglaw11_HystartEnds.bits8 : waitsOk wigwaglaw11_HystartEnds.T8.2 wigwaglaw11_HystartEnds.B8 = true := by kernel_rfl
def wigwaglaw11_HystartEnds.T12 : Bool × List (List Nat × List Nat) := (true, [([], []), ([], []), ([0, 1], [0, 1]), ([2], [2]), ([3], [3]), ([], []), ([5], [5]), ([4, 6], [4, 6])])
def wigwaglaw11_HystartEnds.B12 : List Nat := [0, 0, 3, 7, 15, 0, 32, 127]
theorem wigwaglaw11_HystartEnds.tab12 : rtab .any (opsOf Try.f5 12) = wigwaglaw11_HystartEnds.T12 := by kernel_rfl
theorem wigwaglaw11_HystartEnds.bits12 : waitsOk wigwaglaw11_HystartEnds.T12.2 wigwaglaw11_HystartEnds.B12 = true := by kernel_rfl
set_option maxHeartbeats 8000000 in
set_option maxRecDepth 100000 in
theorem wigwaglaw11_HystartEnds.calls (k : Nat) (a0 : Int) (A1 : Option Addr) (c1 : Nat) (l1 : List (S33)) (r : Bool) (w : World) (hr1 : Kd.C k33 w A1 l1.length l1) (hc1 : l1.length ≤ c1) (h : wigwaglaw11_HystartEnds.f k a0 l1 = some r) :
    Calls Try.prog 5 #[.int .u64 a0, .slice A1 l1.length c1] w fun e w' => e = .returned (.bool r) ∧ Below w.heap.size w w' := by
  have hu25 := Try.underlying25
  have HR1 := Aside0.mk hr1
  have HC1 := Aside0.mk hc1
  clear hr1 hc1
  have HB := Aside0.mk (Below.refl w.heap.size w)
  have H : ((wigwaglaw11_awake.f k).bind fun t145 => ((hystart_New.f a0).bind fun bt146 => (wigwaglaw11_HystartEnds.l0 k l1 t145 18446744073709551615 0 bt146.1 bt146.2.1 bt146.2.2.1 bt146.2.2.2.1 bt146.2.2.2.2.1 bt146.2.2.2.2.2.1 bt146.2.2.2.2.2.2))) = some r := h
  clear h
  replace H := Option.bind_eq_some_iff.mp H
  obtain ⟨t145, A30, H⟩ := H
  replace H : ((hystart_New.f a0).bind fun bt146 => (wigwaglaw11_HystartEnds.l0 k l1 t145 18446744073709551615 0 bt146.1 bt146.2.1 bt146.2.2.1 bt146.2.2.2.1 bt146.2.2.2.2.1 bt146.2.2.2.2.2.1 bt146.2.2.2.2.2.2)) = some r := H
  have A3 := Aside0.mk A30
  clear A30
  replace H := Option.bind_eq_some_iff.mp H
  obtain ⟨⟨t146, t147, t148, t149, t150, t151, t152⟩, A40, H⟩ := H
  replace H : (wigwaglaw11_HystartEnds.l0 k l1 t145 18446744073709551615 0 t146 t147 t148 t149 t150 t151 t152) = some r := H
  have A4 := Aside0.mk A40
  clear A40
  have H' := Aside0.mk H
  clear H
  go_enter Try.func5, Try.ntmps5
  go_wp2_with (first | ((with_reducible refine gate_callee (f := 9) rfl ?_); refine goesL_ (some 10) rfl rfl Try.func9 (by kernel_rfl) rfl #[] rfl (by (try simp only [List.map_toArray, List.map_cons, List.map_nil]); first | done | rfl | (simp only [List.length_drop, List.length_take]; rfl)) ?_; (with_reducible refine (wigwaglaw11_awake.calls k  t145 _ A3.out).mono ?_); rintro e w5 ⟨rfl, hb⟩; refine ⟨_, rfl, ?_⟩; have n0_ := Aside0.mk (below_step (by repeat (first | (with_reducible first | exact HB.out | apply below_alloc | apply pw_below_drewN | apply below_drew1) | exact HB.out)) hb); clear HB; have HB := n0_; clear n0_; (try clear hb); (try clear hb2); (try clear hk); (try clear hi)) | ((with_reducible refine gate_callee (f := 14) rfl ?_); refine goesL_ (some 12) rfl rfl Try.func14 (by kernel_rfl) rfl #[.int .u64 a0] rfl (by (try simp only [List.map_toArray, List.map_cons, List.map_nil]); first | done | rfl | (simp only [List.length_drop, List.length_take]; rfl)) ?_; (with_reducible refine (hystart_New.calls a0 t146 t147 t148 t149 t150 t151 t152 _ A4.out).mono ?_); rintro e w6 ⟨rfl, hb⟩; refine ⟨_, rfl, ?_⟩; have n0_ := Aside0.mk (below_step (by repeat (first | (with_reducible first | exact HB.out | apply below_alloc | apply pw_below_drewN | apply below_drew1) | exact HB.out)) hb); clear HB; have HB := n0_; clear n0_; (try clear hb); (try clear hb2); (try clear hk); (try clear hi)) | ((with_reducible refine gate_dst (N := 6) rfl ?_); refine box_event ?hg (N := 6) ?hd (cs := #[.int .i64 0, .int .u64 0, .int .u64 0, .int .u64 0, .int .u64 0, .int .u64 0, .int .u64 0]) (t := 25) ?hr ?_; (case hd => rfl); (case hg => rfl); (case hr => first | (go_simp; done) | (go_simp; rfl)); intro gb153 hg w7 hbox hb; have n0_ := Aside0.mk (below_step (by repeat (first | (with_reducible first | exact HB.out | apply below_alloc | apply pw_below_drewN | apply below_drew1) | exact HB.out)) hb); have n1_ := Aside0.mk (hbox); have n2_ := Aside0.mk ((by rw [hg]; exact (below_size (by repeat (first | (with_reducible first | exact HB.out | apply below_alloc | apply pw_below_drewN | apply below_drew1) | exact HB.out))) : w.heap.size ≤ gb153)); have n3_ := Aside0.mk ((by rw [hg]; exact (below_size (by repeat (first | (with_reducible first | exact HB.out | apply below_alloc | apply pw_below_drewN | apply below_drew1) | exact HB.out))) : w.heap.size ≤ gb153)); clear HB; have HB := n0_; have BK153 := n1_; have GW153 := n2_; have GE153 := n3_; clear n0_ n1_ n2_ n3_; clear hb hbox hg; have hcz8_0 : w7.cell? ⟨gb153, 0, none⟩ = some (.int .i64 0) := (blk_cell BK153.out 0).trans rfl; have hcz8_1 : w7.cell? ⟨gb153, 1, none⟩ = some (.int .u64 0) := (blk_cell BK153.out 1).trans rfl; have hcz8_2 : w7.cell? ⟨gb153, 2, none⟩ = some (.int .u64 0) := (blk_cell BK153.out 2).trans rfl; have hcz8_3 : w7.cell? ⟨gb153, 3, none⟩ = some (.int .u64 0) := (blk_cell BK153.out 3).trans rfl; have hcz8_4 : w7.cell? ⟨gb153, 4, none⟩ = some (.int .u64 0) := (blk_cell BK153.out 4).trans rfl; have hcz8_5 : w7.cell? ⟨gb153, 5, none⟩ = some (.int .u64 0) := (blk_cell BK153.out 5).trans rfl; have hcz8_6 : w7.cell? ⟨gb153, 6, none⟩ = some (.int .u64 0) := (blk_cell BK153.out 6).trans rfl; have hfz8_0 := blk_frozen BK153.out 0; have hfz8_1 := blk_frozen BK153.out 1; have hfz8_2 := blk_frozen BK153.out 2; have hfz8_3 := blk_frozen BK153.out 3; have hfz8_4 := blk_frozen BK153.out 4; have hfz8_5 := blk_frozen BK153.out 5; have hfz8_6 := blk_frozen BK153.out 6))
  go_loopg [7, 8] k (fun kq v7 v8 w' => ∃ (x7_1 : Int) (x8_1 : Int) (x154000_1 : Int) (x154001_1 : Int) (x154002_1 : Int) (x154003_1 : Int) (x154004_1 : Int) (x154005_1 : Int) (x154006_1 : Int), v7 = .int .u64 x7_1 ∧ v8 = .int .i64 x8_1 ∧ Aside0 (wigwaglaw11_HystartEnds.l0 kq l1 t145 x7_1 x8_1 x154000_1 x154001_1 x154002_1 x154003_1 x154004_1 x154005_1 x154006_1 = some r) ∧ Aside0 (kq ≤ k) ∧ Aside0 (w'.heap[gb153]? = some (.cells #[.int .i64 x154000_1, .int .u64 x154001_1, .int .u64 x154002_1, .int .u64 x154003_1, .int .u64 x154004_1, .int .u64 x154005_1, .int .u64 x154006_1] 25 (0, 0))) ∧ Aside0 (Below w.heap.size w w'))
  case atStart => exact ⟨(18446744073709551615), (0), (t146), (t147), (t148), (t149), (t150), (t151), (t152), (by first | rfl | (simp; done) | (simp [*]; done)), (by first | rfl | (simp; done) | (simp [*]; done)), H', ⟨Nat.le_refl _⟩, ⟨by (with_reducible repeat (first | refine blk_drewN ?_ _ | refine blk_drew ?_ | refine blk_alloc ?_ _)); refine blk_put (cs := #[.int .i64 t146, .int .u64 t147, .int .u64 t148, .int .u64 t149, .int .u64 t150, .int .u64 t151, .int .u64 0]) ?_ 6 _ rfl; (with_reducible repeat (first | refine blk_drewN ?_ _ | refine blk_drew ?_ | refine blk_alloc ?_ _)); refine blk_put (cs := #[.int .i64 t146, .int .u64 t147, .int .u64 t148, .int .u64 t149, .int .u64 t150, .int .u64 0, .int .u64 0]) ?_ 5 _ rfl; (with_reducible repeat (first | refine blk_drewN ?_ _ | refine blk_drew ?_ | refine blk_alloc ?_ _)); refine blk_put (cs := #[.int .i64 t146, .int .u64 t147, .int .u64 t148, .int .u64 t149, .int .u64 0, .int .u64 0, .int .u64 0]) ?_ 4 _ rfl; (with_reducible repeat (first | refine blk_drewN ?_ _ | refine blk_drew ?_ | refine blk_alloc ?_ _)); refine blk_put (cs := #[.int .i64 t146, .int .u64 t147, .int .u64 t148, .int .u64 0, .int .u64 0, .int .u64 0, .int .u64 0]) ?_ 3 _ rfl; (with_reducible repeat (first | refine blk_drewN ?_ _ | refine blk_drew ?_ | refine blk_alloc ?_ _)); refine blk_put (cs := #[.int .i64 t146, .int .u64 t147, .int .u64 0, .int .u64 0, .int .u64 0, .int .u64 0, .int .u64 0]) ?_ 2 _ rfl; (with_reducible repeat (first | refine blk_drewN ?_ _ | refine blk_drew ?_ | refine blk_alloc ?_ _)); refine blk_put (cs := #[.int .i64 t146, .int .u64 0, .int .u64 0, .int .u64 0, .int .u64 0, .int .u64 0, .int .u64 0]) ?_ 1 _ rfl; (with_reducible repeat (first | refine blk_drewN ?_ _ | refine blk_drew ?_ | refine blk_alloc ?_ _)); refine blk_put (cs := #[.int .i64 0, .int .u64 0, .int .u64 0, .int .u64 0, .int .u64 0, .int .u64 0, .int .u64 0]) ?_ 0 _ rfl; (with_reducible repeat (first | refine blk_drewN ?_ _ | refine blk_drew ?_ | refine blk_alloc ?_ _)); exact BK153.out⟩, ⟨by repeat (first | (with_reducible first | exact HB.out | apply below_alloc | apply pw_below_drewN | apply below_drew1 | refine below_set ?_ GE153.out) | exact HB.out)⟩⟩
  case round =>
    clear H'
    try clear c1
    try clear p2
    try clear c5
    try clear hcz8_0
    try clear hcz8_1
    try clear hcz8_2
    try clear hcz8_3
    try clear hcz8_4
    try clear hcz8_5
    try clear hcz8_6
    try clear hfz8_0
    try clear hfz8_1
    try clear hfz8_2
    try clear hfz8_3
    try clear hfz8_4
    try clear hfz8_5
    try clear hfz8_6
    obtain ⟨x7_1, x8_1, x154000_1, x154001_1, x154002_1, x154003_1, x154004_1, x154005_1, x154006_1, rfl, rfl, HA, HK1, BK153, HB⟩ := hrel
    cases gk with
    | zero => exact absurd HA.out (by simp [wigwaglaw11_HystartEnds.l0])
    | succ k1 =>
      have H := HA.out
      clear HA
      simp only [wigwaglaw11_HystartEnds.l0] at H
      have HC9 := Aside0.mk H
      clear H
      go_upto_region 5 with (fail)
      go_cut [20] (fun v20 wc => ∃ (kq : Nat) (x20_8 : Bool), v20 = .bool x20_8 ∧ Aside0 (wigwaglaw11_HystartEnds.j1 kq l1 t145 x7_1 x8_1 x20_8 x154000_1 x154001_1 x154002_1 x154003_1 x154004_1 x154005_1 x154006_1 = some r) ∧ Aside0 (kq ≤ k1) ∧ Aside0 (wc.heap[gb153]? = some (.cells #[.int .i64 x154000_1, .int .u64 x154001_1, .int .u64 x154002_1, .int .u64 x154003_1, .int .u64 x154004_1, .int .u64 x154005_1, .int .u64 x154006_1] 25 (0, 0))) ∧ Aside0 (Below w.heap.size w wc))
      case first =>
        have H := HC9.out
        clear HC9
        by_cases c10 : x8_1 < (l1.length : Int)
        · rw [if_pos c10] at H
          have c10b0 : decide (x8_1 < (l1.length : Int)) = true := decide_eq_true c10
          clear c10
          (first | rw [c10b0] | (simp only [i64_w, i32_w]; rw [c10b0]) | skip)
          have H' := Aside0.mk H
          clear H
          go_wp2
          go_meet
          case rel => exact ⟨_, (decide (x8_1 < 200)), (by first | rfl | (simp; done) | (simp [*]; done)), H', ⟨by have := HK1.out; first | omega | exact Nat.le_refl _⟩, ⟨by (with_reducible repeat (first | refine blk_drewN ?_ _ | refine blk_drew ?_ | refine blk_alloc ?_ _)); exact BK153.out⟩, ⟨by repeat (first | (with_reducible first | exact HB.out | apply below_alloc | apply pw_below_drewN | apply below_drew1 | refine below_set ?_ GE153.out) | exact HB.out)⟩⟩
        · rw [if_neg c10] at H
          have c10b0 : decide (x8_1 < (l1.length : Int)) = false := decide_eq_false c10
          clear c10
          (first | rw [c10b0] | (simp only [i64_w, i32_w]; rw [c10b0]) | skip)
          have H' := Aside0.mk H
          clear H
          go_wp2
          go_meet
          case rel => exact ⟨_, (false), (by first | rfl | (simp; done) | (simp [*]; done)), H', ⟨by have := HK1.out; first | omega | exact Nat.le_refl _⟩, ⟨by (with_reducible repeat (first | refine blk_drewN ?_ _ | refine blk_drew ?_ | refine blk_alloc ?_ _)); exact BK153.out⟩, ⟨by repeat (first | (with_reducible first | exact HB.out | apply below_alloc | apply pw_below_drewN | apply below_drew1 | refine below_set ?_ GE153.out) | exact HB.out)⟩⟩
      case rest =>
        clear HC9
        try clear c1
        try clear p2
        try clear c5
        try clear c9
        try clear c10
        try clear c10b0
        try clear hcz8_0
        try clear hcz8_1
        try clear hcz8_2
        try clear hcz8_3
        try clear hcz8_4
        try clear hcz8_5
        try clear hcz8_6
        try clear hfz8_0
        try clear hfz8_1
        try clear hfz8_2
        try clear hfz8_3
        try clear hfz8_4
        try clear hfz8_5
        try clear hfz8_6
        try clear p2
        obtain ⟨kq, x20_8, rfl, HA, HJ8, BK153, HB⟩ := hcut
        cases kq with
        | zero => exact absurd HA.out (by simp [wigwaglaw11_HystartEnds.j1])
        | succ kj8 =>
          have H := HA.out
          clear HA
          simp only [wigwaglaw11_HystartEnds.j1] at H
          by_cases c11 : x20_8 = true
          · subst c11
            have H1 : (if 0 ≤ x8_1 then (if x8_1 < (l1.length : Int) then ((hystart_Sample.f kj8 x154000_1 x154001_1 x154002_1 x154003_1 x154004_1 x154005_1 x154006_1 ((rd_T33 l1 x8_1).f0) ((rd_T33 l1 x8_1).f1) ((rd_T33 l1 x8_1).f2)).bind fun bt158 => (if x154000_1 = 2 then (if (!(bt158.1 == x154000_1) || (!(bt158.2.1 == x154001_1) || (!(bt158.2.2.1 == x154002_1) || (!(bt158.2.2.2.1 == x154003_1) || (!(bt158.2.2.2.2.1 == x154004_1) || (!(bt158.2.2.2.2.2.1 == x154005_1) || (!(bt158.2.2.2.2.2.2 == x154006_1)))))))) = true then (some false) else (wigwaglaw11_HystartEnds.l0 kj8 l1 t145 x7_1 (wrap64 (x8_1 + 1)) bt158.1 bt158.2.1 bt158.2.2.1 bt158.2.2.2.1 bt158.2.2.2.2.1 bt158.2.2.2.2.2.1 bt158.2.2.2.2.2.2)) else (if ((rd_T33 l1 x8_1).f0) ≥ x154001_1 then (wigwaglaw11_HystartEnds.j2 kj8 l1 t145 18446744073709551615 x8_1 bt158.1 bt158.2.1 bt158.2.2.1 bt158.2.2.2.1 bt158.2.2.2.2.1 bt158.2.2.2.2.2.1 bt158.2.2.2.2.2.2 x154000_1 x154001_1 x154002_1 x154003_1 x154004_1 x154005_1 x154006_1) else (wigwaglaw11_HystartEnds.j2 kj8 l1 t145 x7_1 x8_1 bt158.1 bt158.2.1 bt158.2.2.1 bt158.2.2.2.1 bt158.2.2.2.2.1 bt158.2.2.2.2.2.1 bt158.2.2.2.2.2.2 x154000_1 x154001_1 x154002_1 x154003_1 x154004_1 x154005_1 x154006_1)))) else (none)) else (none)) = some r := by rw [if_pos rfl] at H; exact H
            clear H
            have H := H1
            clear H1
            by_cases c12 : 0 ≤ x8_1
            · rw [if_pos c12] at H
              have c12b0 : decide (0 ≤ x8_1) = true := decide_eq_true c12
              clear c12
              by_cases c13 : x8_1 < (l1.length : Int)
              · rw [if_pos c13] at H
                have c13b0 : decide (x8_1 < (l1.length : Int)) = true := decide_eq_true c13
                clear c13
                replace H := Option.bind_eq_some_iff.mp H
                obtain ⟨⟨t158, t159, t160, t161, t162, t163, t164⟩, A140, H⟩ := H
                replace H : (if x154000_1 = 2 then (if (!(t158 == x154000_1) || (!(t159 == x154001_1) || (!(t160 == x154002_1) || (!(t161 == x154003_1) || (!(t162 == x154004_1) || (!(t163 == x154005_1) || (!(t164 == x154006_1)))))))) = true then (some false) else (wigwaglaw11_HystartEnds.l0 kj8 l1 t145 x7_1 (wrap64 (x8_1 + 1)) t158 t159 t160 t161 t162 t163 t164)) else (if ((rd_T33 l1 x8_1).f0) ≥ x154001_1 then (wigwaglaw11_HystartEnds.j2 kj8 l1 t145 18446744073709551615 x8_1 t158 t159 t160 t161 t162 t163 t164 x154000_1 x154001_1 x154002_1 x154003_1 x154004_1 x154005_1 x154006_1) else (wigwaglaw11_HystartEnds.j2 kj8 l1 t145 x7_1 x8_1 t158 t159 t160 t161 t162 t163 t164 x154000_1 x154001_1 x154002_1 x154003_1 x154004_1 x154005_1 x154006_1))) = some r := H
                have A14 := Aside0.mk A140
                clear A140
                by_cases c15 : x154000_1 = 2
                · rw [if_pos c15] at H
                  have c15b0 : (x154000_1 == 2) = true := beq_iff_eq.mpr c15
                  have c15b1 : (x154000_1 != 2) = false := bne_eq_false_iff_eq.mpr c15
                  clear c15
                  by_cases c16 : (!(t158 == x154000_1) || (!(t159 == x154001_1) || (!(t160 == x154002_1) || (!(t161 == x154003_1) || (!(t162 == x154004_1) || (!(t163 == x154005_1) || (!(t164 == x154006_1)))))))) = true
                  · rw [if_pos c16] at H
                    have c16b0 : (!(t158 == x154000_1) || (!(t159 == x154001_1) || (!(t160 == x154002_1) || (!(t161 == x154003_1) || (!(t162 == x154004_1) || (!(t163 == x154005_1) || (!(t164 == x154006_1)))))))) = true := c16
                    clear c16
                    obtain rfl := Option.some.inj H
                    have hcz17_0 : wc.cell? ⟨gb153, 0, none⟩ = some (.int .i64 x154000_1) := (blk_cell BK153.out 0).trans rfl
                    have hcz17_1 : wc.cell? ⟨gb153, 1, none⟩ = some (.int .u64 x154001_1) := (blk_cell BK153.out 1).trans rfl
                    have hcz17_2 : wc.cell? ⟨gb153, 2, none⟩ = some (.int .u64 x154002_1) := (blk_cell BK153.out 2).trans rfl
                    have hcz17_3 : wc.cell? ⟨gb153, 3, none⟩ = some (.int .u64 x154003_1) := (blk_cell BK153.out 3).trans rfl
                    have hcz17_4 : wc.cell? ⟨gb153, 4, none⟩ = some (.int .u64 x154004_1) := (blk_cell BK153.out 4).trans rfl
                    have hcz17_5 : wc.cell? ⟨gb153, 5, none⟩ = some (.int .u64 x154005_1) := (blk_cell BK153.out 5).trans rfl
                    have hcz17_6 : wc.cell? ⟨gb153, 6, none⟩ = some (.int .u64 x154006_1) := (blk_cell BK153.out 6).trans rfl
                    have hfz17_0 := blk_frozen BK153.out 0
                    have hfz17_1 := blk_frozen BK153.out 1
                    have hfz17_2 := blk_frozen BK153.out 2
                    have hfz17_3 := blk_frozen BK153.out 3
                    have hfz17_4 := blk_frozen BK153.out 4
                    have hfz17_5 := blk_frozen BK153.out 5
                    have hfz17_6 := blk_frozen BK153.out 6
                    try go_wp2_with (first | ((with_reducible refine gate_dst (N := 9) rfl ?_); refine box_event ?hg (N := 9) ?hd (cs := #[.int .i64 0, .int .u64 0, .int .u64 0, .int .u64 0, .int .u64 0, .int .u64 0, .int .u64 0]) (t := 25) ?hr ?_; (case hd => rfl); (case hg => rfl); (case hr => first | (go_simp; done) | (go_simp; rfl)); intro gb154 hg w18 hbox hb; have n0_ := Aside0.mk (blk_below (g := gb153) (o := .cells #[.int .i64 x154000_1, .int .u64 x154001_1, .int .u64 x154002_1, .int .u64 x154003_1, .int .u64 x154004_1, .int .u64 x154005_1, .int .u64 x154006_1] 25 (0, 0)) (by (with_reducible repeat (first | refine blk_drewN ?_ _ | refine blk_drew ?_ | refine blk_alloc ?_ _)); exact BK153.out) hb); have n1_ := Aside0.mk (below_step (by repeat (first | (with_reducible first | exact HB.out | apply below_alloc | apply pw_below_drewN | apply below_drew1 | refine below_set ?_ GE153.out) | exact HB.out)) hb); have n2_ := Aside0.mk (hbox); have n3_ := Aside0.mk ((by rw [hg]; exact (below_size (by repeat (first | (with_reducible first | exact HB.out | apply below_alloc | apply pw_below_drewN | apply below_drew1 | refine below_set ?_ GE153.out) | exact HB.out))) : w.heap.size ≤ gb154)); have n4_ := Aside0.mk ((by rw [hg]; exact (below_size (by repeat (first | (with_reducible first | exact HB.out | apply below_alloc | apply pw_below_drewN | apply below_drew1 | refine below_set ?_ GE153.out) | exact HB.out))) : w.heap.size ≤ gb154)); have n5_ := Aside0.mk ((by rw [hg]; exact Nat.ne_of_lt (blk_lt (g := gb153) (o := .cells #[.int .i64 x154000_1, .int .u64 x154001_1, .int .u64 x154002_1, .int .u64 x154003_1, .int .u64 x154004_1, .int .u64 x154005_1, .int .u64 x154006_1] 25 (0, 0)) (by (with_reducible repeat (first | refine blk_drewN ?_ _ | refine blk_drew ?_ | refine blk_alloc ?_ _)); exact BK153.out)) : gb153 ≠ gb154)); have n6_ := Aside0.mk ((by rw [hg]; exact Nat.ne_of_gt (blk_lt (g := gb153) (o := .cells #[.int .i64 x154000_1, .int .u64 x154001_1, .int .u64 x154002_1, .int .u64 x154003_1, .int .u64 x154004_1, .int .u64 x154005_1, .int .u64 x154006_1] 25 (0, 0)) (by (with_reducible repeat (first | refine blk_drewN ?_ _ | refine blk_drew ?_ | refine blk_alloc ?_ _)); exact BK153.out)) : gb154 ≠ gb153)); clear BK153; clear HB; have BK153 := n0_; have HB := n1_; have BK154 := n2_; have GW154 := n3_; have GE154 := n4_; have NB153_154 := n5_; have NB154_153 := n6_; clear n0_ n1_ n2_ n3_ n4_ n5_ n6_; clear hb hbox hg; have hnb19 := NB154_153.out; have hnc19 := NB153_154.out; have hcz20_0 : w18.cell? ⟨gb154, 0, none⟩ = some (.int .i64 0) := (blk_cell BK154.out 0).trans rfl; have hcz20_1 : w18.cell? ⟨gb154, 1, none⟩ = some (.int .u64 0) := (blk_cell BK154.out 1).trans rfl; have hcz20_2 : w18.cell? ⟨gb154, 2, none⟩ = some (.int .u64 0) := (blk_cell BK154.out 2).trans rfl; have hcz20_3 : w18.cell? ⟨gb154, 3, none⟩ = some (.int .u64 0) := (blk_cell BK154.out 3).trans rfl; have hcz20_4 : w18.cell? ⟨gb154, 4, none⟩ = some (.int .u64 0) := (blk_cell BK154.out 4).trans rfl; have hcz20_5 : w18.cell? ⟨gb154, 5, none⟩ = some (.int .u64 0) := (blk_cell BK154.out 5).trans rfl; have hcz20_6 : w18.cell? ⟨gb154, 6, none⟩ = some (.int .u64 0) := (blk_cell BK154.out 6).trans rfl; have hfz20_0 := blk_frozen BK154.out 0; have hfz20_1 := blk_frozen BK154.out 1; have hfz20_2 := blk_frozen BK154.out 2; have hfz20_3 := blk_frozen BK154.out 3; have hfz20_4 := blk_frozen BK154.out 4; have hfz20_5 := blk_frozen BK154.out 5; have hfz20_6 := blk_frozen BK154.out 6))
                    have n0_ : Aside0 ((((((((w18.setCell ⟨gb154, 0, none⟩ (.int .i64 x154000_1)).setCell ⟨gb154, 1, none⟩ (.int .u64 x154001_1)).setCell ⟨gb154, 2, none⟩ (.int .u64 x154002_1)).setCell ⟨gb154, 3, none⟩ (.int .u64 x154003_1)).setCell ⟨gb154, 4, none⟩ (.int .u64 x154004_1)).setCell ⟨gb154, 5, none⟩ (.int .u64 x154005_1)).setCell ⟨gb154, 6, none⟩ (.int .u64 x154006_1)).heap[gb153]? = some (.cells #[.int .i64 x154000_1, .int .u64 x154001_1, .int .u64 x154002_1, .int .u64 x154003_1, .int .u64 x154004_1, .int .u64 x154005_1, .int .u64 x154006_1] 25 (0, 0))) := ⟨by (with_reducible repeat (first | refine blk_drewN ?_ _ | refine blk_drew ?_ | refine blk_alloc ?_ _)); refine blk_far ?_ NB153_154.out _; (with_reducible repeat (first | refine blk_drewN ?_ _ | refine blk_drew ?_ | refine blk_alloc ?_ _)); refine blk_far ?_ NB153_154.out _; (with_reducible repeat (first | refine blk_drewN ?_ _ | refine blk_drew ?_ | refine blk_alloc ?_ _)); refine blk_far ?_ NB153_154.out _; (with_reducible repeat (first | refine blk_drewN ?_ _ | refine blk_drew ?_ | refine blk_alloc ?_ _)); refine blk_far ?_ NB153_154.out _; (with_reducible repeat (first | refine blk_drewN ?_ _ | refine blk_drew ?_ | refine blk_alloc ?_ _)); refine blk_far ?_ NB153_154.out _; (with_reducible repeat (first | refine blk_drewN ?_ _ | refine blk_drew ?_ | refine blk_alloc ?_ _)); refine blk_far ?_ NB153_154.out _; (with_reducible repeat (first | refine blk_drewN ?_ _ | refine blk_drew ?_ | refine blk_alloc ?_ _)); refine blk_far ?_ NB153_154.out _; (with_reducible repeat (first | refine blk_drewN ?_ _ | refine blk_drew ?_ | refine blk_alloc ?_ _)); exact BK153.out⟩
                    have n1_ : Aside0 ((((((((w18.setCell ⟨gb154, 0, none⟩ (.int .i64 x154000_1)).setCell ⟨gb154, 1, none⟩ (.int .u64 x154001_1)).setCell ⟨gb154, 2, none⟩ (.int .u64 x154002_1)).setCell ⟨gb154, 3, none⟩ (.int .u64 x154003_1)).setCell ⟨gb154, 4, none⟩ (.int .u64 x154004_1)).setCell ⟨gb154, 5, none⟩ (.int .u64 x154005_1)).setCell ⟨gb154, 6, none⟩ (.int .u64 x154006_1)).heap[gb154]? = some (.cells #[.int .i64 x154000_1, .int .u64 x154001_1, .int .u64 x154002_1, .int .u64 x154003_1, .int .u64 x154004_1, .int .u64 x154005_1, .int .u64 x154006_1] 25 (0, 0))) := ⟨by (with_reducible repeat (first | refine blk_drewN ?_ _ | refine blk_drew ?_ | refine blk_alloc ?_ _)); refine blk_put (cs := #[.int .i64 x154000_1, .int .u64 x154001_1, .int .u64 x154002_1, .int .u64 x154003_1, .int .u64 x154004_1, .int .u64 x154005_1, .int .u64 0]) ?_ 6 _ rfl; (with_reducible repeat (first | refine blk_drewN ?_ _ | refine blk_drew ?_ | refine blk_alloc ?_ _)); refine blk_put (cs := #[.int .i64 x154000_1, .int .u64 x154001_1, .int .u64 x154002_1, .int .u64 x154003_1, .int .u64 x154004_1, .int .u64 0, .int .u64 0]) ?_ 5 _ rfl; (with_reducible repeat (first | refine blk_drewN ?_ _ | refine blk_drew ?_ | refine blk_alloc ?_ _)); refine blk_put (cs := #[.int .i64 x154000_1, .int .u64 x154001_1, .int .u64 x154002_1, .int .u64 x154003_1, .int .u64 0, .int .u64 0, .int .u64 0]) ?_ 4 _ rfl; (with_reducible repeat (first | refine blk_drewN ?_ _ | refine blk_drew ?_ | refine blk_alloc ?_ _)); refine blk_put (cs := #[.int .i64 x154000_1, .int .u64 x154001_1, .int .u64 x154002_1, .int .u64 0, .int .u64 0, .int .u64 0, .int .u64 0]) ?_ 3 _ rfl; (with_reducible repeat (first | refine blk_drewN ?_ _ | refine blk_drew ?_ | refine blk_alloc ?_ _)); refine blk_put (cs := #[.int .i64 x154000_1, .int .u64 x154001_1, .int .u64 0, .int .u64 0, .int .u64 0, .int .u64 0, .int .u64 0]) ?_ 2 _ rfl; (with_reducible repeat (first | refine blk_drewN ?_ _ | refine blk_drew ?_ | refine blk_alloc ?_ _)); refine blk_put (cs := #[.int .i64 x154000_1, .int .u64 0, .int .u64 0, .int .u64 0, .int .u64 0, .int .u64 0, .int .u64 0]) ?_ 1 _ rfl; (with_reducible repeat (first | refine blk_drewN ?_ _ | refine blk_drew ?_ | refine blk_alloc ?_ _)); refine blk_put (cs := #[.int .i64 0, .int .u64 0, .int .u64 0, .int .u64 0, .int .u64 0, .int .u64 0, .int .u64 0]) ?_ 0 _ rfl; (with_reducible repeat (first | refine blk_drewN ?_ _ | refine blk_drew ?_ | refine blk_alloc ?_ _)); exact BK154.out⟩
                    have n2_ : Aside0 (Below w.heap.size w (((((((w18.setCell ⟨gb154, 0, none⟩ (.int .i64 x154000_1)).setCell ⟨gb154, 1, none⟩ (.int .u64 x154001_1)).setCell ⟨gb154, 2, none⟩ (.int .u64 x154002_1)).setCell ⟨gb154, 3, none⟩ (.int .u64 x154003_1)).setCell ⟨gb154, 4, none⟩ (.int .u64 x154004_1)).setCell ⟨gb154, 5, none⟩ (.int .u64 x154005_1)).setCell ⟨gb154, 6, none⟩ (.int .u64 x154006_1))) := ⟨by repeat (first | (with_reducible first | exact HB.out | apply below_alloc | apply pw_below_drewN | apply below_drew1 | refine below_set ?_ GE153.out | refine below_set ?_ GE154.out) | exact HB.out)⟩
                    (try clear BK153)
                    (try clear BK154)
                    (try clear HB)
                    generalize (((((((w18.setCell ⟨gb154, 0, none⟩ (.int .i64 x154000_1)).setCell ⟨gb154, 1, none⟩ (.int .u64 x154001_1)).setCell ⟨gb154, 2, none⟩ (.int .u64 x154002_1)).setCell ⟨gb154, 3, none⟩ (.int .u64 x154003_1)).setCell ⟨gb154, 4, none⟩ (.int .u64 x154004_1)).setCell ⟨gb154, 5, none⟩ (.int .u64 x154005_1)).setCell ⟨gb154, 6, none⟩ (.int .u64 x154006_1)) = w21 at n0_ n1_ n2_ ⊢
                    have BK153 := n0_
                    have BK154 := n1_
                    have HB := n2_
                    clear n0_ n1_ n2_
                    have n0_ := Aside0.mk (blk_drew BK153.out)
                    have n1_ := Aside0.mk (blk_drew BK154.out)
                    have n2_ := Aside0.mk (below_drew1 HB.out)
                    clear BK153
                    clear BK154
                    clear HB
                    have BK153 := n0_
                    have BK154 := n1_
                    have HB := n2_
                    clear n0_ n1_ n2_
                    have p155 : 0 ≤ (x8_1 : Int) := of_decide_eq_true (by first | (with_reducible assumption) | assumption)
                    have q155 : x8_1 < (l1.length : Int) := of_decide_eq_true (by first | (with_reducible assumption) | assumption)
                    obtain ⟨ad155, e155, hx155_0, hx155_1, hx155_2⟩ := at_T33 HR1.out x8_1 p155 q155
                    have hw155_2 := hx155_2
                    have hw155_1 := hx155_1
                    have hw155_0 := hx155_0
                    cases e155
                    replace hx155_0 := (HB.out.cell (World.block_lt_of_cell? w _ hx155_0)).trans hx155_0
                    replace hx155_1 := (HB.out.cell (World.block_lt_of_cell? w _ hx155_1)).trans hx155_1
                    replace hx155_2 := (HB.out.cell (World.block_lt_of_cell? w _ hx155_2)).trans hx155_2
                    replace p155 := eq_true p155
                    replace q155 := eq_true q155
                    have p156 : 0 ≤ (x8_1 : Int) := of_decide_eq_true (by first | (with_reducible assumption) | assumption)
                    have q156 : x8_1 < (l1.length : Int) := of_decide_eq_true (by first | (with_reducible assumption) | assumption)
                    obtain ⟨ad156, e156, hx156_0, hx156_1, hx156_2⟩ := at_T33 HR1.out x8_1 p156 q156
                    have hw156_2 := hx156_2
                    have hw156_1 := hx156_1
                    have hw156_0 := hx156_0
                    obtain rfl : ad155 = ad156 := (by injection e156)
                    replace hx156_0 := (HB.out.cell (World.block_lt_of_cell? w _ hx156_0)).trans hx156_0
                    replace hx156_1 := (HB.out.cell (World.block_lt_of_cell? w _ hx156_1)).trans hx156_1
                    replace hx156_2 := (HB.out.cell (World.block_lt_of_cell? w _ hx156_2)).trans hx156_2
                    replace p156 := eq_true p156
                    replace q156 := eq_true q156
                    have p157 : 0 ≤ (x8_1 : Int) := of_decide_eq_true (by first | (with_reducible assumption) | assumption)
                    have q157 : x8_1 < (l1.length : Int) := of_decide_eq_true (by first | (with_reducible assumption) | assumption)
                    obtain ⟨ad157, e157, hx157_0, hx157_1, hx157_2⟩ := at_T33 HR1.out x8_1 p157 q157
                    have hw157_2 := hx157_2
                    have hw157_1 := hx157_1
                    have hw157_0 := hx157_0
                    obtain rfl : ad155 = ad157 := (by injection e157)
                    replace hx157_0 := (HB.out.cell (World.block_lt_of_cell? w _ hx157_0)).trans hx157_0
                    replace hx157_1 := (HB.out.cell (World.block_lt_of_cell? w _ hx157_1)).trans hx157_1
                    replace hx157_2 := (HB.out.cell (World.block_lt_of_cell? w _ hx157_2)).trans hx157_2
                    replace p157 := eq_true p157
                    replace q157 := eq_true q157
                    refine start_ (n := 18) (S := fun w' => w'.cell? ⟨gb153, 0, none⟩ = some (.int .i64 x154000_1) ∧ w'.cell? ⟨gb153, 1, none⟩ = some (.int .u64 x154001_1) ∧ w'.cell? ⟨gb153, 2, none⟩ = some (.int .u64 x154002_1) ∧ w'.cell? ⟨gb153, 3, none⟩ = some (.int .u64 x154003_1) ∧ w'.cell? ⟨gb153, 4, none⟩ = some (.int .u64 x154004_1) ∧ w'.cell? ⟨gb153, 5, none⟩ = some (.int .u64 x154005_1) ∧ w'.cell? ⟨gb153, 6, none⟩ = some (.int .u64 x154006_1) ∧ w'.cell? (ad155.add ((x8_1).toNat * 3)) = some (.int .u64 ((rd_T33 l1 x8_1).f0)) ∧ w'.cell? ⟨(ad155.add ((x8_1).toNat * 3)).block, (ad155.add ((x8_1).toNat * 3)).off + 1, none⟩ = some (.int .u64 ((rd_T33 l1 x8_1).f1)) ∧ w'.cell? ⟨(ad155.add ((x8_1).toNat * 3)).block, (ad155.add ((x8_1).toNat * 3)).off + 2, none⟩ = some (.int .u64 ((rd_T33 l1 x8_1).f2)) ∧ w'.cell? (ad155.add ((x8_1).toNat * 3)) = some (.int .u64 ((rd_T33 l1 x8_1).f0)) ∧ w'.cell? ⟨(ad155.add ((x8_1).toNat * 3)).block, (ad155.add ((x8_1).toNat * 3)).off + 1, none⟩ = some (.int .u64 ((rd_T33 l1 x8_1).f1)) ∧ w'.cell? ⟨(ad155.add ((x8_1).toNat * 3)).block, (ad155.add ((x8_1).toNat * 3)).off + 2, none⟩ = some (.int .u64 ((rd_T33 l1 x8_1).f2)) ∧ w'.cell? (ad155.add ((x8_1).toNat * 3)) = some (.int .u64 ((rd_T33 l1 x8_1).f0)) ∧ w'.cell? ⟨(ad155.add ((x8_1).toNat * 3)).block, (ad155.add ((x8_1).toNat * 3)).off + 1, none⟩ = some (.int .u64 ((rd_T33 l1 x8_1).f1)) ∧ w'.cell? ⟨(ad155.add ((x8_1).toNat * 3)).block, (ad155.add ((x8_1).toNat * 3)).off + 2, none⟩ = some (.int .u64 ((rd_T33 l1 x8_1).f2))) (ds := [17]) #[false, false, false, false, false, false, false, false, false, false, false, false, false, false, false, false, false, false] (by kernel_rfl) rfl rfl ⟨(blk_cell BK153.out 0).trans rfl, (blk_cell BK153.out 1).trans rfl, (blk_cell BK153.out 2).trans rfl, (blk_cell BK153.out 3).trans rfl, (blk_cell BK153.out 4).trans rfl, (blk_cell BK153.out 5).trans rfl, (blk_cell BK153.out 6).trans rfl, ((HB.out.cell (World.block_lt_of_cell? w _ hw155_0)).trans hw155_0), ((HB.out.cell (World.block_lt_of_cell? w _ hw155_1)).trans hw155_1), ((HB.out.cell (World.block_lt_of_cell? w _ hw155_2)).trans hw155_2), ((HB.out.cell (World.block_lt_of_cell? w _ hw156_0)).trans hw156_0), ((HB.out.cell (World.block_lt_of_cell? w _ hw156_1)).trans hw156_1), ((HB.out.cell (World.block_lt_of_cell? w _ hw156_2)).trans hw156_2), ((HB.out.cell (World.block_lt_of_cell? w _ hw157_0)).trans hw157_0), ((HB.out.cell (World.block_lt_of_cell? w _ hw157_1)).trans hw157_1), ((HB.out.cell (World.block_lt_of_cell? w _ hw157_2)).trans hw157_2)⟩ (fun hHeld => ?_); refine with_tabW wigwaglaw11_HystartEnds.tab8 wigwaglaw11_HystartEnds.bits8 (fun HT_ HW_ => ?_)
                    generalize w21.drew = w22 at BK153 BK154 HB hx155_0 hx155_1 hx155_2 hx156_0 hx156_1 hx156_2 hx157_0 hx157_1 hx157_2 hHeld ⊢
                    refine pure_ (i := 1) (N := some 25) (v := ?_) (a' := ?_) #[false, true, false, false, false, false, false, false, false, false, false, false, false, false, false, false, false, false] rfl rfl (any_of HT_.out (by kernel_rfl)) (fun _ _ _ h => h) (Or.inl ⟨by rfl, ?_⟩) ?_ ?_
                    rotate_left
                    · intro w'
                      go_simp
                      with_reducible rfl
                    rotate_left
                    · simp only [Act.put, List.setIfInBounds_toArray, List.set_cons_zero, List.set_cons_succ, i64_w, i32_w]
                      rfl
                    refine pure_ (i := 2) (N := some 26) (v := ?_) (a' := ?_) #[false, true, true, false, false, false, false, false, false, false, false, false, false, false, false, false, false, false] rfl rfl (any_of HT_.out (by kernel_rfl)) (fun _ _ _ h => h) (Or.inl ⟨by rfl, ?_⟩) ?_ ?_
                    rotate_left
                    · intro w'
                      go_simp
                      with_reducible rfl
                    rotate_left
                    · simp only [Act.put, List.setIfInBounds_toArray, List.set_cons_zero, List.set_cons_succ, i64_w, i32_w]
                      rfl
                    refine pure_ (i := 3) (N := some 27) (v := ?_) (a' := ?_) #[false, true, true, true, false, false, false, false, false, false, false, false, false, false, false, false, false, false] rfl rfl (any_of HT_.out (by kernel_rfl)) (fun _ _ _ h => h) (Or.inl ⟨by rfl, ?_⟩) ?_ ?_
                    rotate_left
                    · intro w'
                      go_simp
                      with_reducible rfl
                    rotate_left
                    · simp only [Act.put, List.setIfInBounds_toArray, List.set_cons_zero, List.set_cons_succ, i64_w, i32_w]
                      rfl
                    refine pure_ (i := 4) (N := some 28) (v := ?_) (a' := ?_) #[false, true, true, true, true, false, false, false, false, false, false, false, false, false, false, false, false, false] rfl rfl (any_of HT_.out (by kernel_rfl)) (fun _ _ _ h => h) (Or.inl ⟨by rfl, ?_⟩) ?_ ?_
                    rotate_left
                    · intro w'
                      go_simp
                      with_reducible rfl
                    rotate_left
                    · simp only [Act.put, List.setIfInBounds_toArray, List.set_cons_zero, List.set_cons_succ, i64_w, i32_w]
                      rfl
                    refine pure_ (i := 6) (N := some 30) (v := ?_) (a' := ?_) #[false, true, true, true, true, false, true, false, false, false, false, false, false, false, false, false, false, false] rfl rfl (any_of HT_.out (by kernel_rfl)) (fun _ _ _ h => h) (Or.inl ⟨by rfl, ?_⟩) ?_ ?_
                    rotate_left
                    · intro w'
                      go_simp
                      with_reducible rfl
                    rotate_left
                    · simp only [Act.put, List.setIfInBounds_toArray, List.set_cons_zero, List.set_cons_succ, i64_w, i32_w]
                      rfl
                    refine pure_ (i := 7) (N := some 31) (v := ?_) (a' := ?_) #[false, true, true, true, true, false, true, true, false, false, false, false, false, false, false, false, false, false] rfl rfl (any_of HT_.out (by kernel_rfl)) (fun _ _ _ h => h) (Or.inl ⟨by rfl, ?_⟩) ?_ ?_
                    rotate_left
                    · intro w'
                      go_simp
                      with_reducible rfl
                    rotate_left
                    · simp only [Act.put, List.setIfInBounds_toArray, List.set_cons_zero, List.set_cons_succ, i64_w, i32_w]
                      rfl
                    refine pure_ (i := 8) (N := some 32) (v := ?_) (a' := ?_) #[false, true, true, true, true, false, true, true, true, false, false, false, false, false, false, false, false, false] rfl rfl (any_of HT_.out (by kernel_rfl)) (fun _ _ _ h => h) (Or.inl ⟨by rfl, ?_⟩) ?_ ?_
                    rotate_left
                    · intro w'
                      go_simp
                      with_reducible rfl
                    rotate_left
                    · simp only [Act.put, List.setIfInBounds_toArray, List.set_cons_zero, List.set_cons_succ, i64_w, i32_w]
                      rfl
                    refine pure_ (i := 9) (N := some 33) (v := ?_) (a' := ?_) #[false, true, true, true, true, false, true, true, true, true, false, false, false, false, false, false, false, false] rfl rfl (any_of HT_.out (by kernel_rfl)) (fun _ _ _ h => h) (Or.inl ⟨by rfl, ?_⟩) ?_ ?_
                    rotate_left
                    · intro w'
                      go_simp
                      with_reducible rfl
                    rotate_left
                    · simp only [Act.put, List.setIfInBounds_toArray, List.set_cons_zero, List.set_cons_succ, i64_w, i32_w]
                      rfl
                    refine pure_ (i := 11) (N := some 35) (v := ?_) (a' := ?_) #[false, true, true, true, true, false, true, true, true, true, false, true, false, false, false, false, false, false] rfl rfl (any_of HT_.out (by kernel_rfl)) (fun _ _ _ h => h) (Or.inl ⟨by rfl, ?_⟩) ?_ ?_
                    rotate_left
                    · intro w'
                      go_simp
                      with_reducible rfl
                    rotate_left
                    · simp only [Act.put, List.setIfInBounds_toArray, List.set_cons_zero, List.set_cons_succ, i64_w, i32_w]
                      rfl
                    refine pure_ (i := 12) (N := some 36) (v := ?_) (a' := ?_) #[false, true, true, true, true, false, true, true, true, true, false, true, true, false, false, false, false, false] rfl rfl (any_of HT_.out (by kernel_rfl)) (fun _ _ _ h => h) (Or.inl ⟨by rfl, ?_⟩) ?_ ?_
                    rotate_left
                    · intro w'
                      go_simp
                      with_reducible rfl
                    rotate_left
                    · simp only [Act.put, List.setIfInBounds_toArray, List.set_cons_zero, List.set_cons_succ, i64_w, i32_w]
                      rfl
                    refine pure_ (i := 13) (N := some 37) (v := ?_) (a' := ?_) #[false, true, true, true, true, false, true, true, true, true, false, true, true, true, false, false, false, false] rfl rfl (any_of HT_.out (by kernel_rfl)) (fun _ _ _ h => h) (Or.inl ⟨by rfl, ?_⟩) ?_ ?_
                    rotate_left
                    · intro w'
                      go_simp
                      with_reducible rfl
                    rotate_left
                    · simp only [Act.put, List.setIfInBounds_toArray, List.set_cons_zero, List.set_cons_succ, i64_w, i32_w]
                      rfl
                    refine pure_ (i := 14) (N := some 38) (v := ?_) (a' := ?_) #[false, true, true, true, true, false, true, true, true, true, false, true, true, true, true, false, false, false] rfl rfl (any_of HT_.out (by kernel_rfl)) (fun _ _ _ h => h) (Or.inl ⟨by rfl, ?_⟩) ?_ ?_
                    rotate_left
                    · intro w'
                      go_simp
                      with_reducible rfl
                    rotate_left
                    · simp only [Act.put, List.setIfInBounds_toArray, List.set_cons_zero, List.set_cons_succ, i64_w, i32_w]
                      rfl
                    refine take_ (i := 0) (N := some 24) (v := ?_) (a' := ?_) #[true, true, true, true, true, false, true, true, true, true, false, true, true, true, true, false, false, false] rfl rfl (take_ofW HT_.out HW_.out (by kernel_rfl)) (fun _ _ _ h => h) (Or.inl ⟨by rfl, ?_⟩) hHeld ?_ ?_
                    rotate_left
                    · rintro w' ⟨s0, s1, s2, s3, s4, s5, s6, s7, s8, s9, s10, s11, s12, s13, s14, s15⟩
                      go_simp
                      with_reducible rfl
                    rotate_left
                    · simp only [Act.put, List.setIfInBounds_toArray, List.set_cons_zero, List.set_cons_succ, i64_w, i32_w]
                      rfl
                    refine take_ (i := 5) (N := some 29) (v := ?_) (a' := ?_) #[true, true, true, true, true, true, true, true, true, true, false, true, true, true, true, false, false, false] rfl rfl (take_ofW HT_.out HW_.out (by kernel_rfl)) (fun _ _ _ h => h) (Or.inl ⟨by rfl, ?_⟩) hHeld ?_ ?_
                    rotate_left
                    · rintro w' ⟨s0, s1, s2, s3, s4, s5, s6, s7, s8, s9, s10, s11, s12, s13, s14, s15⟩
                      go_simp
                      with_reducible rfl
                    rotate_left
                    · simp only [Act.put, List.setIfInBounds_toArray, List.set_cons_zero, List.set_cons_succ, i64_w, i32_w]
                      rfl
                    refine take_ (i := 10) (N := some 34) (v := ?_) (a' := ?_) #[true, true, true, true, true, true, true, true, true, true, true, true, true, true, true, false, false, false] rfl rfl (take_ofW HT_.out HW_.out (by kernel_rfl)) (fun _ _ _ h => h) (Or.inl ⟨by rfl, ?_⟩) hHeld ?_ ?_
                    rotate_left
                    · rintro w' ⟨s0, s1, s2, s3, s4, s5, s6, s7, s8, s9, s10, s11, s12, s13, s14, s15⟩
                      go_simp
                      with_reducible rfl
                    rotate_left
                    · simp only [Act.put, List.setIfInBounds_toArray, List.set_cons_zero, List.set_cons_succ, i64_w, i32_w]
                      rfl
                    refine take_ (i := 15) (N := some 39) (v := ?_) (a' := ?_) #[true, true, true, true, true, true, true, true, true, true, true, true, true, true, true, true, false, false] rfl rfl (take_ofW HT_.out HW_.out (by kernel_rfl)) (fun _ _ _ h => h) (Or.inl ⟨by rfl, ?_⟩) hHeld ?_ ?_
                    rotate_left
                    · rintro w' ⟨s0, s1, s2, s3, s4, s5, s6, s7, s8, s9, s10, s11, s12, s13, s14, s15⟩
                      go_simp
                      with_reducible rfl
                    rotate_left
                    · simp only [Act.put, List.setIfInBounds_toArray, List.set_cons_zero, List.set_cons_succ, i64_w, i32_w]
                      rfl
                    refine one_ (i := 16) (N := some 40) #[true, true, true, true, true, true, true, true, true, true, true, true, true, true, true, true, true, false] rfl rfl (one_of HT_.out (by kernel_rfl)) (by decide) (fun K hK => ?_)
                    refine goes_ Try.func10 (by kernel_rfl) rfl #[.agg #[.int .i64 x154000_1, .int .u64 x154001_1, .int .u64 x154002_1, .int .u64 x154003_1, .int .u64 x154004_1, .int .u64 x154005_1, .int .u64 x154006_1], .int .u64 ((rd_T33 l1 x8_1).f0), .int .u64 ((rd_T33 l1 x8_1).f1), .int .u64 ((rd_T33 l1 x8_1).f2)] (by rfl) rfl rfl (by (try simp only [List.map_toArray, List.map_cons, List.map_nil]); first | done | rfl | (simp only [List.length_drop, List.length_take]; rfl)) ?_
                    with_reducible refine (hystart_Sample.calls kj8 x154000_1 x154001_1 x154002_1 x154003_1 x154004_1 x154005_1 x154006_1 ((rd_T33 l1 x8_1).f0) ((rd_T33 l1 x8_1).f1) ((rd_T33 l1 x8_1).f2) t158 t159 t160 t161 t162 t163 t164 _ A14.out).mono ?_
                    rintro e w23 ⟨rfl, hb⟩
                    refine ⟨_, rfl, ?_⟩
                    have n0_ := Aside0.mk (blk_below (g := gb153) (o := .cells #[.int .i64 x154000_1, .int .u64 x154001_1, .int .u64 x154002_1, .int .u64 x154003_1, .int .u64 x154004_1, .int .u64 x154005_1, .int .u64 x154006_1] 25 (0, 0)) (by (with_reducible repeat (first | refine blk_drewN ?_ _ | refine blk_drew ?_ | refine blk_alloc ?_ _)); exact BK153.out) hb)
                    have n1_ := Aside0.mk (blk_below (g := gb154) (o := .cells #[.int .i64 x154000_1, .int .u64 x154001_1, .int .u64 x154002_1, .int .u64 x154003_1, .int .u64 x154004_1, .int .u64 x154005_1, .int .u64 x154006_1] 25 (0, 0)) (by (with_reducible repeat (first | refine blk_drewN ?_ _ | refine blk_drew ?_ | refine blk_alloc ?_ _)); exact BK154.out) hb)
                    have n2_ := Aside0.mk (below_step (by repeat (first | (with_reducible first | exact HB.out | apply below_alloc | apply pw_below_drewN | apply below_drew1 | refine below_set ?_ GE153.out | refine below_set ?_ GE154.out) | exact HB.out)) hb)
                    clear BK153
                    clear BK154
                    clear HB
                    have BK153 := n0_
                    have BK154 := n1_
                    have HB := n2_
                    clear n0_ n1_ n2_
                    (try clear hb)
                    (try clear hb2)
                    (try clear hk)
                    (try clear hi)
                    refine hK.out _ _ ⟨(blk_cell BK153.out 0).trans rfl, (blk_cell BK153.out 1).trans rfl, (blk_cell BK153.out 2).trans rfl, (blk_cell BK153.out 3).trans rfl, (blk_cell BK153.out 4).trans rfl, (blk_cell BK153.out 5).trans rfl, (blk_cell BK153.out 6).trans rfl, ((HB.out.cell (World.block_lt_of_cell? w _ hw155_0)).trans hw155_0), ((HB.out.cell (World.block_lt_of_cell? w _ hw155_1)).trans hw155_1), ((HB.out.cell (World.block_lt_of_cell? w _ hw155_2)).trans hw155_2), ((HB.out.cell (World.block_lt_of_cell? w _ hw156_0)).trans hw156_0), ((HB.out.cell (World.block_lt_of_cell? w _ hw156_1)).trans hw156_1), ((HB.out.cell (World.block_lt_of_cell? w _ hw156_2)).trans hw156_2), ((HB.out.cell (World.block_lt_of_cell? w _ hw157_0)).trans hw157_0), ((HB.out.cell (World.block_lt_of_cell? w _ hw157_1)).trans hw157_1), ((HB.out.cell (World.block_lt_of_cell? w _ hw157_2)).trans hw157_2)⟩ (fun hHeld => ?_)
                    clear hK K
                    refine norm_ (a' := ?_) ?_ ?_
                    rotate_left
                    · show Act.put _ (some 40) _ = _
                      simp only [Act.put, List.setIfInBounds_toArray, List.set_cons_zero, List.set_cons_succ, i64_w, i32_w]
                      rfl
                    refine last_ (i := 17) (N := none) #[true, true, true, true, true, true, true, true, true, true, true, true, true, true, true, true, true, true] rfl rfl (one_of HT_.out (by kernel_rfl)) (by decide) (fun K hK => ?_)
                    have hs24 : w23.cell? ⟨gb153, 0, none⟩ = some (.int .i64 x154000_1) := (blk_cell BK153.out 0).trans rfl
                    have hfs24 := blk_frozen BK153.out 0
                    have hns24_1 := NB154_153.out
                    have hms24_1 := NB153_154.out
                    have hs25 : w23.cell? ⟨gb153, 1, none⟩ = some (.int .u64 x154001_1) := (blk_cell BK153.out 1).trans rfl
                    have hfs25 := blk_frozen BK153.out 1
                    have hns25_1 := NB154_153.out
                    have hms25_1 := NB153_154.out
                    have hs26 : w23.cell? ⟨gb153, 2, none⟩ = some (.int .u64 x154002_1) := (blk_cell BK153.out 2).trans rfl
                    have hfs26 := blk_frozen BK153.out 2
                    have hns26_1 := NB154_153.out
                    have hms26_1 := NB153_154.out
                    have hs27 : w23.cell? ⟨gb153, 3, none⟩ = some (.int .u64 x154003_1) := (blk_cell BK153.out 3).trans rfl
                    have hfs27 := blk_frozen BK153.out 3
                    have hns27_1 := NB154_153.out
                    have hms27_1 := NB153_154.out
                    have hs28 : w23.cell? ⟨gb153, 4, none⟩ = some (.int .u64 x154004_1) := (blk_cell BK153.out 4).trans rfl
                    have hfs28 := blk_frozen BK153.out 4
                    have hns28_1 := NB154_153.out
                    have hms28_1 := NB153_154.out
                    have hs29 : w23.cell? ⟨gb153, 5, none⟩ = some (.int .u64 x154005_1) := (blk_cell BK153.out 5).trans rfl
                    have hfs29 := blk_frozen BK153.out 5
                    have hns29_1 := NB154_153.out
                    have hms29_1 := NB153_154.out
                    have hs30 : w23.cell? ⟨gb153, 6, none⟩ = some (.int .u64 x154006_1) := (blk_cell BK153.out 6).trans rfl
                    have hfs30 := blk_frozen BK153.out 6
                    have hns30_1 := NB154_153.out
                    have hms30_1 := NB153_154.out
                    refine skip_ (w1 := ?_) (by rfl) rfl ?_ ?_
                    rotate_left
                    · go_simp
                      rfl
                    refine hK.out _ _ ?_
                    clear hK K
                    refine done_ (done_of HT_.out (by kernel_rfl)) ?_
                    have hcz31_0 : w23.cell? ⟨gb154, 0, none⟩ = some (.int .i64 x154000_1) := (blk_cell BK154.out 0).trans rfl
                    have hcz31_1 : w23.cell? ⟨gb154, 1, none⟩ = some (.int .u64 x154001_1) := (blk_cell BK154.out 1).trans rfl
                    have hcz31_2 : w23.cell? ⟨gb154, 2, none⟩ = some (.int .u64 x154002_1) := (blk_cell BK154.out 2).trans rfl
                    have hcz31_3 : w23.cell? ⟨gb154, 3, none⟩ = some (.int .u64 x154003_1) := (blk_cell BK154.out 3).trans rfl
                    have hcz31_4 : w23.cell? ⟨gb154, 4, none⟩ = some (.int .u64 x154004_1) := (blk_cell BK154.out 4).trans rfl
                    have hcz31_5 : w23.cell? ⟨gb154, 5, none⟩ = some (.int .u64 x154005_1) := (blk_cell BK154.out 5).trans rfl
                    have hcz31_6 : w23.cell? ⟨gb154, 6, none⟩ = some (.int .u64 x154006_1) := (blk_cell BK154.out 6).trans rfl
                    have hfz31_0 := blk_frozen BK154.out 0
                    have hfz31_1 := blk_frozen BK154.out 1
                    have hfz31_2 := blk_frozen BK154.out 2
                    have hfz31_3 := blk_frozen BK154.out 3
                    have hfz31_4 := blk_frozen BK154.out 4
                    have hfz31_5 := blk_frozen BK154.out 5
                    have hfz31_6 := blk_frozen BK154.out 6
                    have hcz32_0 : w23.cell? ⟨gb153, 0, none⟩ = some (.int .i64 x154000_1) := (blk_cell BK153.out 0).trans rfl
                    have hcz32_1 : w23.cell? ⟨gb153, 1, none⟩ = some (.int .u64 x154001_1) := (blk_cell BK153.out 1).trans rfl
                    have hcz32_2 : w23.cell? ⟨gb153, 2, none⟩ = some (.int .u64 x154002_1) := (blk_cell BK153.out 2).trans rfl
                    have hcz32_3 : w23.cell? ⟨gb153, 3, none⟩ = some (.int .u64 x154003_1) := (blk_cell BK153.out 3).trans rfl
                    have hcz32_4 : w23.cell? ⟨gb153, 4, none⟩ = some (.int .u64 x154004_1) := (blk_cell BK153.out 4).trans rfl
                    have hcz32_5 : w23.cell? ⟨gb153, 5, none⟩ = some (.int .u64 x154005_1) := (blk_cell BK153.out 5).trans rfl
                    have hcz32_6 : w23.cell? ⟨gb153, 6, none⟩ = some (.int .u64 x154006_1) := (blk_cell BK153.out 6).trans rfl
                    have hfz32_0 := blk_frozen BK153.out 0
                    have hfz32_1 := blk_frozen BK153.out 1
                    have hfz32_2 := blk_frozen BK153.out 2
                    have hfz32_3 := blk_frozen BK153.out 3
                    have hfz32_4 := blk_frozen BK153.out 4
                    have hfz32_5 := blk_frozen BK153.out 5
                    have hfz32_6 := blk_frozen BK153.out 6
                    try go_wp2
                    go_ret
                    exact ⟨by first | rfl | (simp [errW_none, errW_some] <;> rfl) | (simp [*, errW_none, errW_some] <;> rfl), by repeat (first | (with_reducible first | exact HB.out | apply below_alloc | apply pw_below_drewN | apply below_drew1 | refine below_set ?_ GE153.out | refine below_set ?_ GE154.out) | exact HB.out)⟩
                  · rw [if_neg c16] at H
                    have c16b0 : (!(t158 == x154000_1) || (!(t159 == x154001_1) || (!(t160 == x154002_1) || (!(t161 == x154003_1) || (!(t162 == x154004_1) || (!(t163 == x154005_1) || (!(t164 == x154006_1)))))))) = false := by simpa using c16
                    clear c16
                    have H' := Aside0.mk H
                    clear H
                    have hcz33_0 : wc.cell? ⟨gb153, 0, none⟩ = some (.int .i64 x154000_1) := (blk_cell BK153.out 0).trans rfl
                    have hcz33_1 : wc.cell? ⟨gb153, 1, none⟩ = some (.int .u64 x154001_1) := (blk_cell BK153.out 1).trans rfl
                    have hcz33_2 : wc.cell? ⟨gb153, 2, none⟩ = some (.int .u64 x154002_1) := (blk_cell BK153.out 2).trans rfl
                    have hcz33_3 : wc.cell? ⟨gb153, 3, none⟩ = some (.int .u64 x154003_1) := (blk_cell BK153.out 3).trans rfl
                    have hcz33_4 : wc.cell? ⟨gb153, 4, none⟩ = some (.int .u64 x154004_1) := (blk_cell BK153.out 4).trans rfl
                    have hcz33_5 : wc.cell? ⟨gb153, 5, none⟩ = some (.int .u64 x154005_1) := (blk_cell BK153.out 5).trans rfl
                    have hcz33_6 : wc.cell? ⟨gb153, 6, none⟩ = some (.int .u64 x154006_1) := (blk_cell BK153.out 6).trans rfl
                    have hfz33_0 := blk_frozen BK153.out 0
                    have hfz33_1 := blk_frozen BK153.out 1
                    have hfz33_2 := blk_frozen BK153.out 2
                    have hfz33_3 := blk_frozen BK153.out 3
                    have hfz33_4 := blk_frozen BK153.out 4
                    have hfz33_5 := blk_frozen BK153.out 5
                    have hfz33_6 := blk_frozen BK153.out 6
                    try go_wp2_with (first | ((with_reducible refine gate_dst (N := 9) rfl ?_); refine box_event ?hg (N := 9) ?hd (cs := #[.int .i64 0, .int .u64 0, .int .u64 0, .int .u64 0, .int .u64 0, .int .u64 0, .int .u64 0]) (t := 25) ?hr ?_; (case hd => rfl); (case hg => rfl); (case hr => first | (go_simp; done) | (go_simp; rfl)); intro gb154 hg w34 hbox hb; have n0_ := Aside0.mk (blk_below (g := gb153) (o := .cells #[.int .i64 x154000_1, .int .u64 x154001_1, .int .u64 x154002_1, .int .u64 x154003_1, .int .u64 x154004_1, .int .u64 x154005_1, .int .u64 x154006_1] 25 (0, 0)) (by (with_reducible repeat (first | refine blk_drewN ?_ _ | refine blk_drew ?_ | refine blk_alloc ?_ _)); exact BK153.out) hb); have n1_ := Aside0.mk (below_step (by repeat (first | (with_reducible first | exact HB.out | apply below_alloc | apply pw_below_drewN | apply below_drew1 | refine below_set ?_ GE153.out) | exact HB.out)) hb); have n2_ := Aside0.mk (hbox); have n3_ := Aside0.mk ((by rw [hg]; exact (below_size (by repeat (first | (with_reducible first | exact HB.out | apply below_alloc | apply pw_below_drewN | apply below_drew1 | refine below_set ?_ GE153.out) | exact HB.out))) : w.heap.size ≤ gb154)); have n4_ := Aside0.mk ((by rw [hg]; exact (below_size (by repeat (first | (with_reducible first | exact HB.out | apply below_alloc | apply pw_below_drewN | apply below_drew1 | refine below_set ?_ GE153.out) | exact HB.out))) : w.heap.size ≤ gb154)); have n5_ := Aside0.mk ((by rw [hg]; exact Nat.ne_of_lt (blk_lt (g := gb153) (o := .cells #[.int .i64 x154000_1, .int .u64 x154001_1, .int .u64 x154002_1, .int .u64 x154003_1, .int .u64 x154004_1, .int .u64 x154005_1, .int .u64 x154006_1] 25 (0, 0)) (by (with_reducible repeat (first | refine blk_drewN ?_ _ | refine blk_drew ?_ | refine blk_alloc ?_ _)); exact BK153.out)) : gb153 ≠ gb154)); have n6_ := Aside0.mk ((by rw [hg]; exact Nat.ne_of_gt (blk_lt (g := gb153) (o := .cells #[.int .i64 x154000_1, .int .u64 x154001_1, .int .u64 x154002_1, .int .u64 x154003_1, .int .u64 x154004_1, .int .u64 x154005_1, .int .u64 x154006_1] 25 (0, 0)) (by (with_reducible repeat (first | refine blk_drewN ?_ _ | refine blk_drew ?_ | refine blk_alloc ?_ _)); exact BK153.out)) : gb154 ≠ gb153)); clear BK153; clear HB; have BK153 := n0_; have HB := n1_; have BK154 := n2_; have GW154 := n3_; have GE154 := n4_; have NB153_154 := n5_; have NB154_153 := n6_; clear n0_ n1_ n2_ n3_ n4_ n5_ n6_; clear hb hbox hg; have hnb35 := NB154_153.out; have hnc35 := NB153_154.out; have hcz36_0 : w34.cell? ⟨gb154, 0, none⟩ = some (.int .i64 0) := (blk_cell BK154.out 0).trans rfl; have hcz36_1 : w34.cell? ⟨gb154, 1, none⟩ = some (.int .u64 0) := (blk_cell BK154.out 1).trans rfl; have hcz36_2 : w34.cell? ⟨gb154, 2, none⟩ = some (.int .u64 0) := (blk_cell BK154.out 2).trans rfl; have hcz36_3 : w34.cell? ⟨gb154, 3, none⟩ = some (.int .u64 0) := (blk_cell BK154.out 3).trans rfl; have hcz36_4 : w34.cell? ⟨gb154, 4, none⟩ = some (.int .u64 0) := (blk_cell BK154.out 4).trans rfl; have hcz36_5 : w34.cell? ⟨gb154, 5, none⟩ = some (.int .u64 0) := (blk_cell BK154.out 5).trans rfl; have hcz36_6 : w34.cell? ⟨gb154, 6, none⟩ = some (.int .u64 0) := (blk_cell BK154.out 6).trans rfl; have hfz36_0 := blk_frozen BK154.out 0; have hfz36_1 := blk_frozen BK154.out 1; have hfz36_2 := blk_frozen BK154.out 2; have hfz36_3 := blk_frozen BK154.out 3; have hfz36_4 := blk_frozen BK154.out 4; have hfz36_5 := blk_frozen BK154.out 5; have hfz36_6 := blk_frozen BK154.out 6))
                    have n0_ : Aside0 ((((((((w34.setCell ⟨gb154, 0, none⟩ (.int .i64 x154000_1)).setCell ⟨gb154, 1, none⟩ (.int .u64 x154001_1)).setCell ⟨gb154, 2, none⟩ (.int .u64 x154002_1)).setCell ⟨gb154, 3, none⟩ (.int .u64 x154003_1)).setCell ⟨gb154, 4, none⟩ (.int .u64 x154004_1)).setCell ⟨gb154, 5, none⟩ (.int .u64 x154005_1)).setCell ⟨gb154, 6, none⟩ (.int .u64 x154006_1)).heap[gb153]? = some (.cells #[.int .i64 x154000_1, .int .u64 x154001_1, .int .u64 x154002_1, .int .u64 x154003_1, .int .u64 x154004_1, .int .u64 x154005_1, .int .u64 x154006_1] 25 (0, 0))) := ⟨by (with_reducible repeat (first | refine blk_drewN ?_ _ | refine blk_drew ?_ | refine blk_alloc ?_ _)); refine blk_far ?_ NB153_154.out _; (with_reducible repeat (first | refine blk_drewN ?_ _ | refine blk_drew ?_ | refine blk_alloc ?_ _)); refine blk_far ?_ NB153_154.out _; (with_reducible repeat (first | refine blk_drewN ?_ _ | refine blk_drew ?_ | refine blk_alloc ?_ _)); refine blk_far ?_ NB153_154.out _; (with_reducible repeat (first | refine blk_drewN ?_ _ | refine blk_drew ?_ | refine blk_alloc ?_ _)); refine blk_far ?_ NB153_154.out _; (with_reducible repeat (first | refine blk_drewN ?_ _ | refine blk_drew ?_ | refine blk_alloc ?_ _)); refine blk_far ?_ NB153_154.out _; (with_reducible repeat (first | refine blk_drewN ?_ _ | refine blk_drew ?_ | refine blk_alloc ?_ _)); refine blk_far ?_ NB153_154.out _; (with_reducible repeat (first | refine blk_drewN ?_ _ | refine blk_drew ?_ | refine blk_alloc ?_ _)); refine blk_far ?_ NB153_154.out _; (with_reducible repeat (first | refine blk_drewN ?_ _ | refine blk_drew ?_ | refine blk_alloc ?_ _)); exact BK153.out⟩
                    have n1_ : Aside0 ((((((((w34.setCell ⟨gb154, 0, none⟩ (.int .i64 x154000_1)).setCell ⟨gb154, 1, none⟩ (.int .u64 x154001_1)).setCell ⟨gb154, 2, none⟩ (.int .u64 x154002_1)).setCell ⟨gb154, 3, none⟩ (.int .u64 x154003_1)).setCell ⟨gb154, 4, none⟩ (.int .u64 x154004_1)).setCell ⟨gb154, 5, none⟩ (.int .u64 x154005_1)).setCell ⟨gb154, 6, none⟩ (.int .u64 x154006_1)).heap[gb154]? = some (.cells #[.int .i64 x154000_1, .int .u64 x154001_1, .int .u64 x154002_1, .int .u64 x154003_1, .int .u64 x154004_1, .int .u64 x154005_1, .int .u64 x154006_1] 25 (0, 0))) := ⟨by (with_reducible repeat (first | refine blk_drewN ?_ _ | refine blk_drew ?_ | refine blk_alloc ?_ _)); refine blk_put (cs := #[.int .i64 x154000_1, .int .u64 x154001_1, .int .u64 x154002_1, .int .u64 x154003_1, .int .u64 x154004_1, .int .u64 x154005_1, .int .u64 0]) ?_ 6 _ rfl; (with_reducible repeat (first | refine blk_drewN ?_ _ | refine blk_drew ?_ | refine blk_alloc ?_ _)); refine blk_put (cs := #[.int .i64 x154000_1, .int .u64 x154001_1, .int .u64 x154002_1, .int .u64 x154003_1, .int .u64 x154004_1, .int .u64 0, .int .u64 0]) ?_ 5 _ rfl; (with_reducible repeat (first | refine blk_drewN ?_ _ | refine blk_drew ?_ | refine blk_alloc ?_ _)); refine blk_put (cs := #[.int .i64 x154000_1, .int .u64 x154001_1, .int .u64 x154002_1, .int .u64 x154003_1, .int .u64 0, .int .u64 0, .int .u64 0]) ?_ 4 _ rfl; (with_reducible repeat (first | refine blk_drewN ?_ _ | refine blk_drew ?_ | refine blk_alloc ?_ _)); refine blk_put (cs := #[.int .i64 x154000_1, .int .u64 x154001_1, .int .u64 x154002_1, .int .u64 0, .int .u64 0, .int .u64 0, .int .u64 0]) ?_ 3 _ rfl; (with_reducible repeat (first | refine blk_drewN ?_ _ | refine blk_drew ?_ | refine blk_alloc ?_ _)); refine blk_put (cs := #[.int .i64 x154000_1, .int .u64 x154001_1, .int .u64 0, .int .u64 0, .int .u64 0, .int .u64 0, .int .u64 0]) ?_ 2 _ rfl; (with_reducible repeat (first | refine blk_drewN ?_ _ | refine blk_drew ?_ | refine blk_alloc ?_ _)); refine blk_put (cs := #[.int .i64 x154000_1, .int .u64 0, .int .u64 0, .int .u64 0, .int .u64 0, .int .u64 0, .int .u64 0]) ?_ 1 _ rfl; (with_reducible repeat (first | refine blk_drewN ?_ _ | refine blk_drew ?_ | refine blk_alloc ?_ _)); refine blk_put (cs := #[.int .i64 0, .int .u64 0, .int .u64 0, .int .u64 0, .int .u64 0, .int .u64 0, .int .u64 0]) ?_ 0 _ rfl; (with_reducible repeat (first | refine blk_drewN ?_ _ | refine blk_drew ?_ | refine blk_alloc ?_ _)); exact BK154.out⟩
                    have n2_ : Aside0 (Below w.heap.size w (((((((w34.setCell ⟨gb154, 0, none⟩ (.int .i64 x154000_1)).setCell ⟨gb154, 1, none⟩ (.int .u64 x154001_1)).setCell ⟨gb154, 2, none⟩ (.int .u64 x154002_1)).setCell ⟨gb154, 3, none⟩ (.int .u64 x154003_1)).setCell ⟨gb154, 4, none⟩ (.int .u64 x154004_1)).setCell ⟨gb154, 5, none⟩ (.int .u64 x154005_1)).setCell ⟨gb154, 6, none⟩ (.int .u64 x154006_1))) := ⟨by repeat (first | (with_reducible first | exact HB.out | apply below_alloc | apply pw_below_drewN | apply below_drew1 | refine below_set ?_ GE153.out | refine below_set ?_ GE154.out) | exact HB.out)⟩
                    (try clear BK153)
                    (try clear BK154)
                    (try clear HB)
                    generalize (((((((w34.setCell ⟨gb154, 0, none⟩ (.int .i64 x154000_1)).setCell ⟨gb154, 1, none⟩ (.int .u64 x154001_1)).setCell ⟨gb154, 2, none⟩ (.int .u64 x154002_1)).setCell ⟨gb154, 3, none⟩ (.int .u64 x154003_1)).setCell ⟨gb154, 4, none⟩ (.int .u64 x154004_1)).setCell ⟨gb154, 5, none⟩ (.int .u64 x154005_1)).setCell ⟨gb154, 6, none⟩ (.int .u64 x154006_1)) = w37 at n0_ n1_ n2_ ⊢
                    have BK153 := n0_
                    have BK154 := n1_
                    have HB := n2_
                    clear n0_ n1_ n2_
                    have n0_ := Aside0.mk (blk_drew BK153.out)
                    have n1_ := Aside0.mk (blk_drew BK154.out)
                    have n2_ := Aside0.mk (below_drew1 HB.out)
                    clear BK153
                    clear BK154
                    clear HB
                    have BK153 := n0_
                    have BK154 := n1_
                    have HB := n2_
                    clear n0_ n1_ n2_
                    have p155 : 0 ≤ (x8_1 : Int) := of_decide_eq_true (by first | (with_reducible assumption) | assumption)
                    have q155 : x8_1 < (l1.length : Int) := of_decide_eq_true (by first | (with_reducible assumption) | assumption)
                    obtain ⟨ad155, e155, hx155_0, hx155_1, hx155_2⟩ := at_T33 HR1.out x8_1 p155 q155
                    have hw155_2 := hx155_2
                    have hw155_1 := hx155_1
                    have hw155_0 := hx155_0
                    cases e155
                    replace hx155_0 := (HB.out.cell (World.block_lt_of_cell? w _ hx155_0)).trans hx155_0
                    replace hx155_1 := (HB.out.cell (World.block_lt_of_cell? w _ hx155_1)).trans hx155_1
                    replace hx155_2 := (HB.out.cell (World.block_lt_of_cell? w _ hx155_2)).trans hx155_2
                    replace p155 := eq_true p155
                    replace q155 := eq_true q155
                    have p156 : 0 ≤ (x8_1 : Int) := of_decide_eq_true (by first | (with_reducible assumption) | assumption)
                    have q156 : x8_1 < (l1.length : Int) := of_decide_eq_true (by first | (with_reducible assumption) | assumption)
                    obtain ⟨ad156, e156, hx156_0, hx156_1, hx156_2⟩ := at_T33 HR1.out x8_1 p156 q156
                    have hw156_2 := hx156_2
                    have hw156_1 := hx156_1
                    have hw156_0 := hx156_0
                    obtain rfl : ad155 = ad156 := (by injection e156)
                    replace hx156_0 := (HB.out.cell (World.block_lt_of_cell? w _ hx156_0)).trans hx156_0
                    replace hx156_1 := (HB.out.cell (World.block_lt_of_cell? w _ hx156_1)).trans hx156_1
                    replace hx156_2 := (HB.out.cell (World.block_lt_of_cell? w _ hx156_2)).trans hx156_2
                    replace p156 := eq_true p156
                    replace q156 := eq_true q156
                    have p157 : 0 ≤ (x8_1 : Int) := of_decide_eq_true (by first | (with_reducible assumption) | assumption)
                    have q157 : x8_1 < (l1.length : Int) := of_decide_eq_true (by first | (with_reducible assumption) | assumption)
                    obtain ⟨ad157, e157, hx157_0, hx157_1, hx157_2⟩ := at_T33 HR1.out x8_1 p157 q157
                    have hw157_2 := hx157_2
                    have hw157_1 := hx157_1
                    have hw157_0 := hx157_0
                    obtain rfl : ad155 = ad157 := (by injection e157)
                    replace hx157_0 := (HB.out.cell (World.block_lt_of_cell? w _ hx157_0)).trans hx157_0
                    replace hx157_1 := (HB.out.cell (World.block_lt_of_cell? w _ hx157_1)).trans hx157_1
                    replace hx157_2 := (HB.out.cell (World.block_lt_of_cell? w _ hx157_2)).trans hx157_2
                    replace p157 := eq_true p157
                    replace q157 := eq_true q157
                    refine start_ (n := 18) (S := fun w' => w'.cell? ⟨gb153, 0, none⟩ = some (.int .i64 x154000_1) ∧ w'.cell? ⟨gb153, 1, none⟩ = some (.int .u64 x154001_1) ∧ w'.cell? ⟨gb153, 2, none⟩ = some (.int .u64 x154002_1) ∧ w'.cell? ⟨gb153, 3, none⟩ = some (.int .u64 x154003_1) ∧ w'.cell? ⟨gb153, 4, none⟩ = some (.int .u64 x154004_1) ∧ w'.cell? ⟨gb153, 5, none⟩ = some (.int .u64 x154005_1) ∧ w'.cell? ⟨gb153, 6, none⟩ = some (.int .u64 x154006_1) ∧ w'.cell? (ad155.add ((x8_1).toNat * 3)) = some (.int .u64 ((rd_T33 l1 x8_1).f0)) ∧ w'.cell? ⟨(ad155.add ((x8_1).toNat * 3)).block, (ad155.add ((x8_1).toNat * 3)).off + 1, none⟩ = some (.int .u64 ((rd_T33 l1 x8_1).f1)) ∧ w'.cell? ⟨(ad155.add ((x8_1).toNat * 3)).block, (ad155.add ((x8_1).toNat * 3)).off + 2, none⟩ = some (.int .u64 ((rd_T33 l1 x8_1).f2)) ∧ w'.cell? (ad155.add ((x8_1).toNat * 3)) = some (.int .u64 ((rd_T33 l1 x8_1).f0)) ∧ w'.cell? ⟨(ad155.add ((x8_1).toNat * 3)).block, (ad155.add ((x8_1).toNat * 3)).off + 1, none⟩ = some (.int .u64 ((rd_T33 l1 x8_1).f1)) ∧ w'.cell? ⟨(ad155.add ((x8_1).toNat * 3)).block, (ad155.add ((x8_1).toNat * 3)).off + 2, none⟩ = some (.int .u64 ((rd_T33 l1 x8_1).f2)) ∧ w'.cell? (ad155.add ((x8_1).toNat * 3)) = some (.int .u64 ((rd_T33 l1 x8_1).f0)) ∧ w'.cell? ⟨(ad155.add ((x8_1).toNat * 3)).block, (ad155.add ((x8_1).toNat * 3)).off + 1, none⟩ = some (.int .u64 ((rd_T33 l1 x8_1).f1)) ∧ w'.cell? ⟨(ad155.add ((x8_1).toNat * 3)).block, (ad155.add ((x8_1).toNat * 3)).off + 2, none⟩ = some (.int .u64 ((rd_T33 l1 x8_1).f2))) (ds := [17]) #[false, false, false, false, false, false, false, false, false, false, false, false, false, false, false, false, false, false] (by kernel_rfl) rfl rfl ⟨(blk_cell BK153.out 0).trans rfl, (blk_cell BK153.out 1).trans rfl, (blk_cell BK153.out 2).trans rfl, (blk_cell BK153.out 3).trans rfl, (blk_cell BK153.out 4).trans rfl, (blk_cell BK153.out 5).trans rfl, (blk_cell BK153.out 6).trans rfl, ((HB.out.cell (World.block_lt_of_cell? w _ hw155_0)).trans hw155_0), ((HB.out.cell (World.block_lt_of_cell? w _ hw155_1)).trans hw155_1), ((HB.out.cell (World.block_lt_of_cell? w _ hw155_2)).trans hw155_2), ((HB.out.cell (World.block_lt_of_cell? w _ hw156_0)).trans hw156_0), ((HB.out.cell (World.block_lt_of_cell? w _ hw156_1)).trans hw156_1), ((HB.out.cell (World.block_lt_of_cell? w _ hw156_2)).trans hw156_2), ((HB.out.cell (World.block_lt_of_cell? w _ hw157_0)).trans hw157_0), ((HB.out.cell (World.block_lt_of_cell? w _ hw157_1)).trans hw157_1), ((HB.out.cell (World.block_lt_of_cell? w _ hw157_2)).trans hw157_2)⟩ (fun hHeld => ?_); refine with_tabW wigwaglaw11_HystartEnds.tab8 wigwaglaw11_HystartEnds.bits8 (fun HT_ HW_ => ?_)
                    generalize w37.drew = w38 at BK153 BK154 HB hx155_0 hx155_1 hx155_2 hx156_0 hx156_1 hx156_2 hx157_0 hx157_1 hx157_2 hHeld ⊢
                    refine pure_ (i := 1) (N := some 25) (v := ?_) (a' := ?_) #[false, true, false, false, false, false, false, false, false, false, false, false, false, false, false, false, false, false] rfl rfl (any_of HT_.out (by kernel_rfl)) (fun _ _ _ h => h) (Or.inl ⟨by rfl, ?_⟩) ?_ ?_
                    rotate_left
                    · intro w'
                      go_simp
                      with_reducible rfl
                    rotate_left
                    · simp only [Act.put, List.setIfInBounds_toArray, List.set_cons_zero, List.set_cons_succ, i64_w, i32_w]
                      rfl
                    refine pure_ (i := 2) (N := some 26) (v := ?_) (a' := ?_) #[false, true, true, false, false, false, false, false, false, false, false, false, false, false, false, false, false, false] rfl rfl (any_of HT_.out (by kernel_rfl)) (fun _ _ _ h => h) (Or.inl ⟨by rfl, ?_⟩) ?_ ?_
                    rotate_left
                    · intro w'
                      go_simp
                      with_reducible rfl
                    rotate_left
                    · simp only [Act.put, List.setIfInBounds_toArray, List.set_cons_zero, List.set_cons_succ, i64_w, i32_w]
                      rfl
                    refine pure_ (i := 3) (N := some 27) (v := ?_) (a' := ?_) #[false, true, true, true, false, false, false, false, false, false, false, false, false, false, false, false, false, false] rfl rfl (any_of HT_.out (by kernel_rfl)) (fun _ _ _ h => h) (Or.inl ⟨by rfl, ?_⟩) ?_ ?_
                    rotate_left
                    · intro w'
                      go_simp
                      with_reducible rfl
                    rotate_left
                    · simp only [Act.put, List.setIfInBounds_toArray, List.set_cons_zero, List.set_cons_succ, i64_w, i32_w]
                      rfl
                    refine pure_ (i := 4) (N := some 28) (v := ?_) (a' := ?_) #[false, true, true, true, true, false, false, false, false, false, false, false, false, false, false, false, false, false] rfl rfl (any_of HT_.out (by kernel_rfl)) (fun _ _ _ h => h) (Or.inl ⟨by rfl, ?_⟩) ?_ ?_
                    rotate_left
                    · intro w'
                      go_simp
                      with_reducible rfl
                    rotate_left
                    · simp only [Act.put, List.setIfInBounds_toArray, List.set_cons_zero, List.set_cons_succ, i64_w, i32_w]
                      rfl
                    refine pure_ (i := 6) (N := some 30) (v := ?_) (a' := ?_) #[false, true, true, true, true, false, true, false, false, false, false, false, false, false, false, false, false, false] rfl rfl (any_of HT_.out (by kernel_rfl)) (fun _ _ _ h => h) (Or.inl ⟨by rfl, ?_⟩) ?_ ?_
                    rotate_left
                    · intro w'
                      go_simp
                      with_reducible rfl
                    rotate_left
                    · simp only [Act.put, List.setIfInBounds_toArray, List.set_cons_zero, List.set_cons_succ, i64_w, i32_w]
                      rfl
                    refine pure_ (i := 7) (N := some 31) (v := ?_) (a' := ?_) #[false, true, true, true, true, false, true, true, false, false, false, false, false, false, false, false, false, false] rfl rfl (any_of HT_.out (by kernel_rfl)) (fun _ _ _ h => h) (Or.inl ⟨by rfl, ?_⟩) ?_ ?_
                    rotate_left
                    · intro w'
                      go_simp
                      with_reducible rfl
                    rotate_left
                    · simp only [Act.put, List.setIfInBounds_toArray, List.set_cons_zero, List.set_cons_succ, i64_w, i32_w]
                      rfl
                    refine pure_ (i := 8) (N := some 32) (v := ?_) (a' := ?_) #[false, true, true, true, true, false, true, true, true, false, false, false, false, false, false, false, false, false] rfl rfl (any_of HT_.out (by kernel_rfl)) (fun _ _ _ h => h) (Or.inl ⟨by rfl, ?_⟩) ?_ ?_
                    rotate_left
                    · intro w'
                      go_simp
                      with_reducible rfl
                    rotate_left
                    · simp only [Act.put, List.setIfInBounds_toArray, List.set_cons_zero, List.set_cons_succ, i64_w, i32_w]
                      rfl
                    refine pure_ (i := 9) (N := some 33) (v := ?_) (a' := ?_) #[false, true, true, true, true, false, true, true, true, true, false, false, false, false, false, false, false, false] rfl rfl (any_of HT_.out (by kernel_rfl)) (fun _ _ _ h => h) (Or.inl ⟨by rfl, ?_⟩) ?_ ?_
                    rotate_left
                    · intro w'
                      go_simp
                      with_reducible rfl
                    rotate_left
                    · simp only [Act.put, List.setIfInBounds_toArray, List.set_cons_zero, List.set_cons_succ, i64_w, i32_w]
                      rfl
                    refine pure_ (i := 11) (N := some 35) (v := ?_) (a' := ?_) #[false, true, true, true, true, false, true, true, true, true, false, true, false, false, false, false, false, false] rfl rfl (any_of HT_.out (by kernel_rfl)) (fun _ _ _ h => h) (Or.inl ⟨by rfl, ?_⟩) ?_ ?_
                    rotate_left
                    · intro w'
                      go_simp
                      with_reducible rfl
                    rotate_left
                    · simp only [Act.put, List.setIfInBounds_toArray, List.set_cons_zero, List.set_cons_succ, i64_w, i32_w]
                      rfl
                    refine pure_ (i := 12) (N := some 36) (v := ?_) (a' := ?_) #[false, true, true, true, true, false, true, true, true, true, false, true, true, false, false, false, false, false] rfl rfl (any_of HT_.out (by kernel_rfl)) (fun _ _ _ h => h) (Or.inl ⟨by rfl, ?_⟩) ?_ ?_
                    rotate_left
                    · intro w'
                      go_simp
                      with_reducible rfl
                    rotate_left
                    · simp only [Act.put, List.setIfInBounds_toArray, List.set_cons_zero, List.set_cons_succ, i64_w, i32_w]
                      rfl
                    refine pure_ (i := 13) (N := some 37) (v := ?_) (a' := ?_) #[false, true, true, true, true, false, true, true, true, true, false, true, true, true, false, false, false, false] rfl rfl (any_of HT_.out (by kernel_rfl)) (fun _ _ _ h => h) (Or.inl ⟨by rfl, ?_⟩) ?_ ?_
                    rotate_left
                    · intro w'
                      go_simp
                      with_reducible rfl
                    rotate_left
                    · simp only [Act.put, List.setIfInBounds_toArray, List.set_cons_zero, List.set_cons_succ, i64_w, i32_w]
                      rfl
                    refine pure_ (i := 14) (N := some 38) (v := ?_) (a' := ?_) #[false, true, true, true, true, false, true, true, true, true, false, true, true, true, true, false, false, false] rfl rfl (any_of HT_.out (by kernel_rfl)) (fun _ _ _ h => h) (Or.inl ⟨by rfl, ?_⟩) ?_ ?_
                    rotate_left
                    · intro w'
                      go_simp
                      with_reducible rfl
                    rotate_left
                    · simp only [Act.put, List.setIfInBounds_toArray, List.set_cons_zero, List.set_cons_succ, i64_w, i32_w]
                      rfl
                    refine take_ (i := 0) (N := some 24) (v := ?_) (a' := ?_) #[true, true, true, true, true, false, true, true, true, true, false, true, true, true, true, false, false, false] rfl rfl (take_ofW HT_.out HW_.out (by kernel_rfl)) (fun _ _ _ h => h) (Or.inl ⟨by rfl, ?_⟩) hHeld ?_ ?_
                    rotate_left
                    · rintro w' ⟨s0, s1, s2, s3, s4, s5, s6, s7, s8, s9, s10, s11, s12, s13, s14, s15⟩
                      go_simp
                      with_reducible rfl
                    rotate_left
                    · simp only [Act.put, List.setIfInBounds_toArray, List.set_cons_zero, List.set_cons_succ, i64_w, i32_w]
                      rfl
                    refine take_ (i := 5) (N := some 29) (v := ?_) (a' := ?_) #[true, true, true, true, true, true, true, true, true, true, false, true, true, true, true, false, false, false] rfl rfl (take_ofW HT_.out HW_.out (by kernel_rfl)) (fun _ _ _ h => h) (Or.inl ⟨by rfl, ?_⟩) hHeld ?_ ?_
                    rotate_left
                    · rintro w' ⟨s0, s1, s2, s3, s4, s5, s6, s7, s8, s9, s10, s11, s12, s13, s14, s15⟩
                      go_simp
                      with_reducible rfl
                    rotate_left
                    · simp only [Act.put, List.setIfInBounds_toArray, List.set_cons_zero, List.set_cons_succ, i64_w, i32_w]
                      rfl
                    refine take_ (i := 10) (N := some 34) (v := ?_) (a' := ?_) #[true, true, true, true, true, true, true, true, true, true, true, true, true, true, true, false, false, false] rfl rfl (take_ofW HT_.out HW_.out (by kernel_rfl)) (fun _ _ _ h => h) (Or.inl ⟨by rfl, ?_⟩) hHeld ?_ ?_
                    rotate_left
                    · rintro w' ⟨s0, s1, s2, s3, s4, s5, s6, s7, s8, s9, s10, s11, s12, s13, s14, s15⟩
                      go_simp
                      with_reducible rfl
                    rotate_left
                    · simp only [Act.put, List.setIfInBounds_toArray, List.set_cons_zero, List.set_cons_succ, i64_w, i32_w]
                      rfl
                    refine take_ (i := 15) (N := some 39) (v := ?_) (a' := ?_) #[true, true, true, true, true, true, true, true, true, true, true, true, true, true, true, true, false, false] rfl rfl (take_ofW HT_.out HW_.out (by kernel_rfl)) (fun _ _ _ h => h) (Or.inl ⟨by rfl, ?_⟩) hHeld ?_ ?_
                    rotate_left
                    · rintro w' ⟨s0, s1, s2, s3, s4, s5, s6, s7, s8, s9, s10, s11, s12, s13, s14, s15⟩
                      go_simp
                      with_reducible rfl
                    rotate_left
                    · simp only [Act.put, List.setIfInBounds_toArray, List.set_cons_zero, List.set_cons_succ, i64_w, i32_w]
                      rfl
                    refine one_ (i := 16) (N := some 40) #[true, true, true, true, true, true, true, true, true, true, true, true, true, true, true, true, true, false] rfl rfl (one_of HT_.out (by kernel_rfl)) (by decide) (fun K hK => ?_)
                    refine goes_ Try.func10 (by kernel_rfl) rfl #[.agg #[.int .i64 x154000_1, .int .u64 x154001_1, .int .u64 x154002_1, .int .u64 x154003_1, .int .u64 x154004_1, .int .u64 x154005_1, .int .u64 x154006_1], .int .u64 ((rd_T33 l1 x8_1).f0), .int .u64 ((rd_T33 l1 x8_1).f1), .int .u64 ((rd_T33 l1 x8_1).f2)] (by rfl) rfl rfl (by (try simp only [List.map_toArray, List.map_cons, List.map_nil]); first | done | rfl | (simp only [List.length_drop, List.length_take]; rfl)) ?_
                    with_reducible refine (hystart_Sample.calls kj8 x154000_1 x154001_1 x154002_1 x154003_1 x154004_1 x154005_1 x154006_1 ((rd_T33 l1 x8_1).f0) ((rd_T33 l1 x8_1).f1) ((rd_T33 l1 x8_1).f2) t158 t159 t160 t161 t162 t163 t164 _ A14.out).mono ?_
                    rintro e w39 ⟨rfl, hb⟩
                    refine ⟨_, rfl, ?_⟩
                    have n0_ := Aside0.mk (blk_below (g := gb153) (o := .cells #[.int .i64 x154000_1, .int .u64 x154001_1, .int .u64 x154002_1, .int .u64 x154003_1, .int .u64 x154004_1, .int .u64 x154005_1, .int .u64 x154006_1] 25 (0, 0)) (by (with_reducible repeat (first | refine blk_drewN ?_ _ | refine blk_drew ?_ | refine blk_alloc ?_ _)); exact BK153.out) hb)
                    have n1_ := Aside0.mk (blk_below (g := gb154) (o := .cells #[.int .i64 x154000_1, .int .u64 x154001_1, .int .u64 x154002_1, .int .u64 x154003_1, .int .u64 x154004_1, .int .u64 x154005_1, .int .u64 x154006_1] 25 (0, 0)) (by (with_reducible repeat (first | refine blk_drewN ?_ _ | refine blk_drew ?_ | refine blk_alloc ?_ _)); exact BK154.out) hb)
                    have n2_ := Aside0.mk (below_step (by repeat (first | (with_reducible first | exact HB.out | apply below_alloc | apply pw_below_drewN | apply below_drew1 | refine below_set ?_ GE153.out | refine below_set ?_ GE154.out) | exact HB.out)) hb)
                    clear BK153
                    clear BK154
                    clear HB
                    have BK153 := n0_
                    have BK154 := n1_
                    have HB := n2_
                    clear n0_ n1_ n2_
                    (try clear hb)
                    (try clear hb2)
                    (try clear hk)
                    (try clear hi)
                    refine hK.out _ _ ⟨(blk_cell BK153.out 0).trans rfl, (blk_cell BK153.out 1).trans rfl, (blk_cell BK153.out 2).trans rfl, (blk_cell BK153.out 3).trans rfl, (blk_cell BK153.out 4).trans rfl, (blk_cell BK153.out 5).trans rfl, (blk_cell BK153.out 6).trans rfl, ((HB.out.cell (World.block_lt_of_cell? w _ hw155_0)).trans hw155_0), ((HB.out.cell (World.block_lt_of_cell? w _ hw155_1)).trans hw155_1), ((HB.out.cell (World.block_lt_of_cell? w _ hw155_2)).trans hw155_2), ((HB.out.cell (World.block_lt_of_cell? w _ hw156_0)).trans hw156_0), ((HB.out.cell (World.block_lt_of_cell? w _ hw156_1)).trans hw156_1), ((HB.out.cell (World.block_lt_of_cell? w _ hw156_2)).trans hw156_2), ((HB.out.cell (World.block_lt_of_cell? w _ hw157_0)).trans hw157_0), ((HB.out.cell (World.block_lt_of_cell? w _ hw157_1)).trans hw157_1), ((HB.out.cell (World.block_lt_of_cell? w _ hw157_2)).trans hw157_2)⟩ (fun hHeld => ?_)
                    clear hK K
                    refine norm_ (a' := ?_) ?_ ?_
                    rotate_left
                    · show Act.put _ (some 40) _ = _
                      simp only [Act.put, List.setIfInBounds_toArray, List.set_cons_zero, List.set_cons_succ, i64_w, i32_w]
                      rfl
                    refine last_ (i := 17) (N := none) #[true, true, true, true, true, true, true, true, true, true, true, true, true, true, true, true, true, true] rfl rfl (one_of HT_.out (by kernel_rfl)) (by decide) (fun K hK => ?_)
                    have hs40 : w39.cell? ⟨gb153, 0, none⟩ = some (.int .i64 x154000_1) := (blk_cell BK153.out 0).trans rfl
                    have hfs40 := blk_frozen BK153.out 0
                    have hns40_1 := NB154_153.out
                    have hms40_1 := NB153_154.out
                    have hs41 : w39.cell? ⟨gb153, 1, none⟩ = some (.int .u64 x154001_1) := (blk_cell BK153.out 1).trans rfl
                    have hfs41 := blk_frozen BK153.out 1
                    have hns41_1 := NB154_153.out
                    have hms41_1 := NB153_154.out
                    have hs42 : w39.cell? ⟨gb153, 2, none⟩ = some (.int .u64 x154002_1) := (blk_cell BK153.out 2).trans rfl
                    have hfs42 := blk_frozen BK153.out 2
                    have hns42_1 := NB154_153.out
                    have hms42_1 := NB153_154.out
                    have hs43 : w39.cell? ⟨gb153, 3, none⟩ = some (.int .u64 x154003_1) := (blk_cell BK153.out 3).trans rfl
                    have hfs43 := blk_frozen BK153.out 3
                    have hns43_1 := NB154_153.out
                    have hms43_1 := NB153_154.out
                    have hs44 : w39.cell? ⟨gb153, 4, none⟩ = some (.int .u64 x154004_1) := (blk_cell BK153.out 4).trans rfl
                    have hfs44 := blk_frozen BK153.out 4
                    have hns44_1 := NB154_153.out
                    have hms44_1 := NB153_154.out
                    have hs45 : w39.cell? ⟨gb153, 5, none⟩ = some (.int .u64 x154005_1) := (blk_cell BK153.out 5).trans rfl
                    have hfs45 := blk_frozen BK153.out 5
                    have hns45_1 := NB154_153.out
                    have hms45_1 := NB153_154.out
                    have hs46 : w39.cell? ⟨gb153, 6, none⟩ = some (.int .u64 x154006_1) := (blk_cell BK153.out 6).trans rfl
                    have hfs46 := blk_frozen BK153.out 6
                    have hns46_1 := NB154_153.out
                    have hms46_1 := NB153_154.out
                    refine skip_ (w1 := ?_) (by rfl) rfl ?_ ?_
                    rotate_left
                    · go_simp
                      rfl
                    refine hK.out _ _ ?_
                    clear hK K
                    refine done_ (done_of HT_.out (by kernel_rfl)) ?_
                    have hcz47_0 : w39.cell? ⟨gb154, 0, none⟩ = some (.int .i64 x154000_1) := (blk_cell BK154.out 0).trans rfl
                    have hcz47_1 : w39.cell? ⟨gb154, 1, none⟩ = some (.int .u64 x154001_1) := (blk_cell BK154.out 1).trans rfl
                    have hcz47_2 : w39.cell? ⟨gb154, 2, none⟩ = some (.int .u64 x154002_1) := (blk_cell BK154.out 2).trans rfl
                    have hcz47_3 : w39.cell? ⟨gb154, 3, none⟩ = some (.int .u64 x154003_1) := (blk_cell BK154.out 3).trans rfl
                    have hcz47_4 : w39.cell? ⟨gb154, 4, none⟩ = some (.int .u64 x154004_1) := (blk_cell BK154.out 4).trans rfl
                    have hcz47_5 : w39.cell? ⟨gb154, 5, none⟩ = some (.int .u64 x154005_1) := (blk_cell BK154.out 5).trans rfl
                    have hcz47_6 : w39.cell? ⟨gb154, 6, none⟩ = some (.int .u64 x154006_1) := (blk_cell BK154.out 6).trans rfl
                    have hfz47_0 := blk_frozen BK154.out 0
                    have hfz47_1 := blk_frozen BK154.out 1
                    have hfz47_2 := blk_frozen BK154.out 2
                    have hfz47_3 := blk_frozen BK154.out 3
                    have hfz47_4 := blk_frozen BK154.out 4
                    have hfz47_5 := blk_frozen BK154.out 5
                    have hfz47_6 := blk_frozen BK154.out 6
                    have hcz48_0 : w39.cell? ⟨gb153, 0, none⟩ = some (.int .i64 x154000_1) := (blk_cell BK153.out 0).trans rfl
                    have hcz48_1 : w39.cell? ⟨gb153, 1, none⟩ = some (.int .u64 x154001_1) := (blk_cell BK153.out 1).trans rfl
                    have hcz48_2 : w39.cell? ⟨gb153, 2, none⟩ = some (.int .u64 x154002_1) := (blk_cell BK153.out 2).trans rfl
                    have hcz48_3 : w39.cell? ⟨gb153, 3, none⟩ = some (.int .u64 x154003_1) := (blk_cell BK153.out 3).trans rfl
                    have hcz48_4 : w39.cell? ⟨gb153, 4, none⟩ = some (.int .u64 x154004_1) := (blk_cell BK153.out 4).trans rfl
                    have hcz48_5 : w39.cell? ⟨gb153, 5, none⟩ = some (.int .u64 x154005_1) := (blk_cell BK153.out 5).trans rfl
                    have hcz48_6 : w39.cell? ⟨gb153, 6, none⟩ = some (.int .u64 x154006_1) := (blk_cell BK153.out 6).trans rfl
                    have hfz48_0 := blk_frozen BK153.out 0
                    have hfz48_1 := blk_frozen BK153.out 1
                    have hfz48_2 := blk_frozen BK153.out 2
                    have hfz48_3 := blk_frozen BK153.out 3
                    have hfz48_4 := blk_frozen BK153.out 4
                    have hfz48_5 := blk_frozen BK153.out 5
                    have hfz48_6 := blk_frozen BK153.out 6
                    try go_wp2
                    go_roundg kj8
                    case measure => have := HK1.out; have := HJ8.out; omega
                    case rel => exact ⟨(x7_1), (wrap64 (x8_1 + 1)), (t158), (t159), (t160), (t161), (t162), (t163), (t164), (by first | rfl | (simp; done) | (simp [*]; done)), (by first | rfl | (simp; done) | (simp [*]; done)), H', ⟨by have := HK1.out; have := HJ8.out; omega⟩, ⟨by (with_reducible repeat (first | refine blk_drewN ?_ _ | refine blk_drew ?_ | refine blk_alloc ?_ _)); refine blk_put (cs := #[.int .i64 t158, .int .u64 t159, .int .u64 t160, .int .u64 t161, .int .u64 t162, .int .u64 t163, .int .u64 x154006_1]) ?_ 6 _ rfl; (with_reducible repeat (first | refine blk_drewN ?_ _ | refine blk_drew ?_ | refine blk_alloc ?_ _)); refine blk_put (cs := #[.int .i64 t158, .int .u64 t159, .int .u64 t160, .int .u64 t161, .int .u64 t162, .int .u64 x154005_1, .int .u64 x154006_1]) ?_ 5 _ rfl; (with_reducible repeat (first | refine blk_drewN ?_ _ | refine blk_drew ?_ | refine blk_alloc ?_ _)); refine blk_put (cs := #[.int .i64 t158, .int .u64 t159, .int .u64 t160, .int .u64 t161, .int .u64 x154004_1, .int .u64 x154005_1, .int .u64 x154006_1]) ?_ 4 _ rfl; (with_reducible repeat (first | refine blk_drewN ?_ _ | refine blk_drew ?_ | refine blk_alloc ?_ _)); refine blk_put (cs := #[.int .i64 t158, .int .u64 t159, .int .u64 t160, .int .u64 x154003_1, .int .u64 x154004_1, .int .u64 x154005_1, .int .u64 x154006_1]) ?_ 3 _ rfl; (with_reducible repeat (first | refine blk_drewN ?_ _ | refine blk_drew ?_ | refine blk_alloc ?_ _)); refine blk_put (cs := #[.int .i64 t158, .int .u64 t159, .int .u64 x154002_1, .int .u64 x154003_1, .int .u64 x154004_1, .int .u64 x154005_1, .int .u64 x154006_1]) ?_ 2 _ rfl; (with_reducible repeat (first | refine blk_drewN ?_ _ | refine blk_drew ?_ | refine blk_alloc ?_ _)); refine blk_put (cs := #[.int .i64 t158, .int .u64 x154001_1, .int .u64 x154002_1, .int .u64 x154003_1, .int .u64 x154004_1, .int .u64 x154005_1, .int .u64 x154006_1]) ?_ 1 _ rfl; (with_reducible repeat (first | refine blk_drewN ?_ _ | refine blk_drew ?_ | refine blk_alloc ?_ _)); refine blk_put (cs := #[.int .i64 x154000_1, .int .u64 x154001_1, .int .u64 x154002_1, .int .u64 x154003_1, .int .u64 x154004_1, .int .u64 x154005_1, .int .u64 x154006_1]) ?_ 0 _ rfl; (with_reducible repeat (first | refine blk_drewN ?_ _ | refine blk_drew ?_ | refine blk_alloc ?_ _)); exact BK153.out⟩, ⟨by repeat (first | (with_reducible first | exact HB.out | apply below_alloc | apply pw_below_drewN | apply below_drew1 | refine below_set ?_ GE153.out | refine below_set ?_ GE154.out) | exact HB.out)⟩⟩
                · rw [if_neg c15] at H
                  have c15b0 : (x154000_1 == 2) = false := beq_eq_false_iff_ne.mpr c15
                  have c15b1 : (x154000_1 != 2) = true := bne_iff_ne.mpr c15
                  have HC49 := Aside0.mk H
                  clear H
                  have hcz50_0 : wc.cell? ⟨gb153, 0, none⟩ = some (.int .i64 x154000_1) := (blk_cell BK153.out 0).trans rfl
                  have hcz50_1 : wc.cell? ⟨gb153, 1, none⟩ = some (.int .u64 x154001_1) := (blk_cell BK153.out 1).trans rfl
                  have hcz50_2 : wc.cell? ⟨gb153, 2, none⟩ = some (.int .u64 x154002_1) := (blk_cell BK153.out 2).trans rfl
                  have hcz50_3 : wc.cell? ⟨gb153, 3, none⟩ = some (.int .u64 x154003_1) := (blk_cell BK153.out 3).trans rfl
                  have hcz50_4 : wc.cell? ⟨gb153, 4, none⟩ = some (.int .u64 x154004_1) := (blk_cell BK153.out 4).trans rfl
                  have hcz50_5 : wc.cell? ⟨gb153, 5, none⟩ = some (.int .u64 x154005_1) := (blk_cell BK153.out 5).trans rfl
                  have hcz50_6 : wc.cell? ⟨gb153, 6, none⟩ = some (.int .u64 x154006_1) := (blk_cell BK153.out 6).trans rfl
                  have hfz50_0 := blk_frozen BK153.out 0
                  have hfz50_1 := blk_frozen BK153.out 1
                  have hfz50_2 := blk_frozen BK153.out 2
                  have hfz50_3 := blk_frozen BK153.out 3
                  have hfz50_4 := blk_frozen BK153.out 4
                  have hfz50_5 := blk_frozen BK153.out 5
                  have hfz50_6 := blk_frozen BK153.out 6
                  try go_wp2_with (first | ((with_reducible refine gate_dst (N := 9) rfl ?_); refine box_event ?hg (N := 9) ?hd (cs := #[.int .i64 0, .int .u64 0, .int .u64 0, .int .u64 0, .int .u64 0, .int .u64 0, .int .u64 0]) (t := 25) ?hr ?_; (case hd => rfl); (case hg => rfl); (case hr => first | (go_simp; done) | (go_simp; rfl)); intro gb154 hg w51 hbox hb; have n0_ := Aside0.mk (blk_below (g := gb153) (o := .cells #[.int .i64 x154000_1, .int .u64 x154001_1, .int .u64 x154002_1, .int .u64 x154003_1, .int .u64 x154004_1, .int .u64 x154005_1, .int .u64 x154006_1] 25 (0, 0)) (by (with_reducible repeat (first | refine blk_drewN ?_ _ | refine blk_drew ?_ | refine blk_alloc ?_ _)); exact BK153.out) hb); have n1_ := Aside0.mk (below_step (by repeat (first | (with_reducible first | exact HB.out | apply below_alloc | apply pw_below_drewN | apply below_drew1 | refine below_set ?_ GE153.out) | exact HB.out)) hb); have n2_ := Aside0.mk (hbox); have n3_ := Aside0.mk ((by rw [hg]; exact (below_size (by repeat (first | (with_reducible first | exact HB.out | apply below_alloc | apply pw_below_drewN | apply below_drew1 | refine below_set ?_ GE153.out) | exact HB.out))) : w.heap.size ≤ gb154)); have n4_ := Aside0.mk ((by rw [hg]; exact (below_size (by repeat (first | (with_reducible first | exact HB.out | apply below_alloc | apply pw_below_drewN | apply below_drew1 | refine below_set ?_ GE153.out) | exact HB.out))) : w.heap.size ≤ gb154)); have n5_ := Aside0.mk ((by rw [hg]; exact Nat.ne_of_lt (blk_lt (g := gb153) (o := .cells #[.int .i64 x154000_1, .int .u64 x154001_1, .int .u64 x154002_1, .int .u64 x154003_1, .int .u64 x154004_1, .int .u64 x154005_1, .int .u64 x154006_1] 25 (0, 0)) (by (with_reducible repeat (first | refine blk_drewN ?_ _ | refine blk_drew ?_ | refine blk_alloc ?_ _)); exact BK153.out)) : gb153 ≠ gb154)); have n6_ := Aside0.mk ((by rw [hg]; exact Nat.ne_of_gt (blk_lt (g := gb153) (o := .cells #[.int .i64 x154000_1, .int .u64 x154001_1, .int .u64 x154002_1, .int .u64 x154003_1, .int .u64 x154004_1, .int .u64 x154005_1, .int .u64 x154006_1] 25 (0, 0)) (by (with_reducible repeat (first | refine blk_drewN ?_ _ | refine blk_drew ?_ | refine blk_alloc ?_ _)); exact BK153.out)) : gb154 ≠ gb153)); clear BK153; clear HB; have BK153 := n0_; have HB := n1_; have BK154 := n2_; have GW154 := n3_; have GE154 := n4_; have NB153_154 := n5_; have NB154_153 := n6_; clear n0_ n1_ n2_ n3_ n4_ n5_ n6_; clear hb hbox hg; have hnb52 := NB154_153.out; have hnc52 := NB153_154.out; have hcz53_0 : w51.cell? ⟨gb154, 0, none⟩ = some (.int .i64 0) := (blk_cell BK154.out 0).trans rfl; have hcz53_1 : w51.cell? ⟨gb154, 1, none⟩ = some (.int .u64 0) := (blk_cell BK154.out 1).trans rfl; have hcz53_2 : w51.cell? ⟨gb154, 2, none⟩ = some (.int .u64 0) := (blk_cell BK154.out 2).trans rfl; have hcz53_3 : w51.cell? ⟨gb154, 3, none⟩ = some (.int .u64 0) := (blk_cell BK154.out 3).trans rfl; have hcz53_4 : w51.cell? ⟨gb154, 4, none⟩ = some (.int .u64 0) := (blk_cell BK154.out 4).trans rfl; have hcz53_5 : w51.cell? ⟨gb154, 5, none⟩ = some (.int .u64 0) := (blk_cell BK154.out 5).trans rfl; have hcz53_6 : w51.cell? ⟨gb154, 6, none⟩ = some (.int .u64 0) := (blk_cell BK154.out 6).trans rfl; have hfz53_0 := blk_frozen BK154.out 0; have hfz53_1 := blk_frozen BK154.out 1; have hfz53_2 := blk_frozen BK154.out 2; have hfz53_3 := blk_frozen BK154.out 3; have hfz53_4 := blk_frozen BK154.out 4; have hfz53_5 := blk_frozen BK154.out 5; have hfz53_6 := blk_frozen BK154.out 6))
                  have n0_ : Aside0 ((((((((w51.setCell ⟨gb154, 0, none⟩ (.int .i64 x154000_1)).setCell ⟨gb154, 1, none⟩ (.int .u64 x154001_1)).setCell ⟨gb154, 2, none⟩ (.int .u64 x154002_1)).setCell ⟨gb154, 3, none⟩ (.int .u64 x154003_1)).setCell ⟨gb154, 4, none⟩ (.int .u64 x154004_1)).setCell ⟨gb154, 5, none⟩ (.int .u64 x154005_1)).setCell ⟨gb154, 6, none⟩ (.int .u64 x154006_1)).heap[gb153]? = some (.cells #[.int .i64 x154000_1, .int .u64 x154001_1, .int .u64 x154002_1, .int .u64 x154003_1, .int .u64 x154004_1, .int .u64 x154005_1, .int .u64 x154006_1] 25 (0, 0))) := ⟨by (with_reducible repeat (first | refine blk_drewN ?_ _ | refine blk_drew ?_ | refine blk_alloc ?_ _)); refine blk_far ?_ NB153_154.out _; (with_reducible repeat (first | refine blk_drewN ?_ _ | refine blk_drew ?_ | refine blk_alloc ?_ _)); refine blk_far ?_ NB153_154.out _; (with_reducible repeat (first | refine blk_drewN ?_ _ | refine blk_drew ?_ | refine blk_alloc ?_ _)); refine blk_far ?_ NB153_154.out _; (with_reducible repeat (first | refine blk_drewN ?_ _ | refine blk_drew ?_ | refine blk_alloc ?_ _)); refine blk_far ?_ NB153_154.out _; (with_reducible repeat (first | refine blk_drewN ?_ _ | refine blk_drew ?_ | refine blk_alloc ?_ _)); refine blk_far ?_ NB153_154.out _; (with_reducible repeat (first | refine blk_drewN ?_ _ | refine blk_drew ?_ | refine blk_alloc ?_ _)); refine blk_far ?_ NB153_154.out _; (with_reducible repeat (first | refine blk_drewN ?_ _ | refine blk_drew ?_ | refine blk_alloc ?_ _)); refine blk_far ?_ NB153_154.out _; (with_reducible repeat (first | refine blk_drewN ?_ _ | refine blk_drew ?_ | refine blk_alloc ?_ _)); exact BK153.out⟩
                  have n1_ : Aside0 ((((((((w51.setCell ⟨gb154, 0, none⟩ (.int .i64 x154000_1)).setCell ⟨gb154, 1, none⟩ (.int .u64 x154001_1)).setCell ⟨gb154, 2, none⟩ (.int .u64 x154002_1)).setCell ⟨gb154, 3, none⟩ (.int .u64 x154003_1)).setCell ⟨gb154, 4, none⟩ (.int .u64 x154004_1)).setCell ⟨gb154, 5, none⟩ (.int .u64 x154005_1)).setCell ⟨gb154, 6, none⟩ (.int .u64 x154006_1)).heap[gb154]? = some (.cells #[.int .i64 x154000_1, .int .u64 x154001_1, .int .u64 x154002_1, .int .u64 x154003_1, .int .u64 x154004_1, .int .u64 x154005_1, .int .u64 x154006_1] 25 (0, 0))) := ⟨by (with_reducible repeat (first | refine blk_drewN ?_ _ | refine blk_drew ?_ | refine blk_alloc ?_ _)); refine blk_put (cs := #[.int .i64 x154000_1, .int .u64 x154001_1, .int .u64 x154002_1, .int .u64 x154003_1, .int .u64 x154004_1, .int .u64 x154005_1, .int .u64 0]) ?_ 6 _ rfl; (with_reducible repeat (first | refine blk_drewN ?_ _ | refine blk_drew ?_ | refine blk_alloc ?_ _)); refine blk_put (cs := #[.int .i64 x154000_1, .int .u64 x154001_1, .int .u64 x154002_1, .int .u64 x154003_1, .int .u64 x154004_1, .int .u64 0, .int .u64 0]) ?_ 5 _ rfl; (with_reducible repeat (first | refine blk_drewN ?_ _ | refine blk_drew ?_ | refine blk_alloc ?_ _)); refine blk_put (cs := #[.int .i64 x154000_1, .int .u64 x154001_1, .int .u64 x154002_1, .int .u64 x154003_1, .int .u64 0, .int .u64 0, .int .u64 0]) ?_ 4 _ rfl; (with_reducible repeat (first | refine blk_drewN ?_ _ | refine blk_drew ?_ | refine blk_alloc ?_ _)); refine blk_put (cs := #[.int .i64 x154000_1, .int .u64 x154001_1, .int .u64 x154002_1, .int .u64 0, .int .u64 0, .int .u64 0, .int .u64 0]) ?_ 3 _ rfl; (with_reducible repeat (first | refine blk_drewN ?_ _ | refine blk_drew ?_ | refine blk_alloc ?_ _)); refine blk_put (cs := #[.int .i64 x154000_1, .int .u64 x154001_1, .int .u64 0, .int .u64 0, .int .u64 0, .int .u64 0, .int .u64 0]) ?_ 2 _ rfl; (with_reducible repeat (first | refine blk_drewN ?_ _ | refine blk_drew ?_ | refine blk_alloc ?_ _)); refine blk_put (cs := #[.int .i64 x154000_1, .int .u64 0, .int .u64 0, .int .u64 0, .int .u64 0, .int .u64 0, .int .u64 0]) ?_ 1 _ rfl; (with_reducible repeat (first | refine blk_drewN ?_ _ | refine blk_drew ?_ | refine blk_alloc ?_ _)); refine blk_put (cs := #[.int .i64 0, .int .u64 0, .int .u64 0, .int .u64 0, .int .u64 0, .int .u64 0, .int .u64 0]) ?_ 0 _ rfl; (with_reducible repeat (first | refine blk_drewN ?_ _ | refine blk_drew ?_ | refine blk_alloc ?_ _)); exact BK154.out⟩
                  have n2_ : Aside0 (Below w.heap.size w (((((((w51.setCell ⟨gb154, 0, none⟩ (.int .i64 x154000_1)).setCell ⟨gb154, 1, none⟩ (.int .u64 x154001_1)).setCell ⟨gb154, 2, none⟩ (.int .u64 x154002_1)).setCell ⟨gb154, 3, none⟩ (.int .u64 x154003_1)).setCell ⟨gb154, 4, none⟩ (.int .u64 x154004_1)).setCell ⟨gb154, 5, none⟩ (.int .u64 x154005_1)).setCell ⟨gb154, 6, none⟩ (.int .u64 x154006_1))) := ⟨by repeat (first | (with_reducible first | exact HB.out | apply below_alloc | apply pw_below_drewN | apply below_drew1 | refine below_set ?_ GE153.out | refine below_set ?_ GE154.out) | exact HB.out)⟩
                  (try clear BK153)
                  (try clear BK154)
                  (try clear HB)
                  generalize (((((((w51.setCell ⟨gb154, 0, none⟩ (.int .i64 x154000_1)).setCell ⟨gb154, 1, none⟩ (.int .u64 x154001_1)).setCell ⟨gb154, 2, none⟩ (.int .u64 x154002_1)).setCell ⟨gb154, 3, none⟩ (.int .u64 x154003_1)).setCell ⟨gb154, 4, none⟩ (.int .u64 x154004_1)).setCell ⟨gb154, 5, none⟩ (.int .u64 x154005_1)).setCell ⟨gb154, 6, none⟩ (.int .u64 x154006_1)) = w54 at n0_ n1_ n2_ ⊢
                  have BK153 := n0_
                  have BK154 := n1_
                  have HB := n2_
                  clear n0_ n1_ n2_
                  have n0_ := Aside0.mk (blk_drew BK153.out)
                  have n1_ := Aside0.mk (blk_drew BK154.out)
                  have n2_ := Aside0.mk (below_drew1 HB.out)
                  clear BK153
                  clear BK154
                  clear HB
                  have BK153 := n0_
                  have BK154 := n1_
                  have HB := n2_
                  clear n0_ n1_ n2_
                  have p155 : 0 ≤ (x8_1 : Int) := of_decide_eq_true (by first | (with_reducible assumption) | assumption)
                  have q155 : x8_1 < (l1.length : Int) := of_decide_eq_true (by first | (with_reducible assumption) | assumption)
                  obtain ⟨ad155, e155, hx155_0, hx155_1, hx155_2⟩ := at_T33 HR1.out x8_1 p155 q155
                  have hw155_2 := hx155_2
                  have hw155_1 := hx155_1
                  have hw155_0 := hx155_0
                  cases e155
                  replace hx155_0 := (HB.out.cell (World.block_lt_of_cell? w _ hx155_0)).trans hx155_0
                  replace hx155_1 := (HB.out.cell (World.block_lt_of_cell? w _ hx155_1)).trans hx155_1
                  replace hx155_2 := (HB.out.cell (World.block_lt_of_cell? w _ hx155_2)).trans hx155_2
                  replace p155 := eq_true p155
                  replace q155 := eq_true q155
                  have p156 : 0 ≤ (x8_1 : Int) := of_decide_eq_true (by first | (with_reducible assumption) | assumption)
                  have q156 : x8_1 < (l1.length : Int) := of_decide_eq_true (by first | (with_reducible assumption) | assumption)
                  obtain ⟨ad156, e156, hx156_0, hx156_1, hx156_2⟩ := at_T33 HR1.out x8_1 p156 q156
                  have hw156_2 := hx156_2
                  have hw156_1 := hx156_1
                  have hw156_0 := hx156_0
                  obtain rfl : ad155 = ad156 := (by injection e156)
                  replace hx156_0 := (HB.out.cell (World.block_lt_of_cell? w _ hx156_0)).trans hx156_0
                  replace hx156_1 := (HB.out.cell (World.block_lt_of_cell? w _ hx156_1)).trans hx156_1
                  replace hx156_2 := (HB.out.cell (World.block_lt_of_cell? w _ hx156_2)).trans hx156_2
                  replace p156 := eq_true p156
                  replace q156 := eq_true q156
                  have p157 : 0 ≤ (x8_1 : Int) := of_decide_eq_true (by first | (with_reducible assumption) | assumption)
                  have q157 : x8_1 < (l1.length : Int) := of_decide_eq_true (by first | (with_reducible assumption) | assumption)
                  obtain ⟨ad157, e157, hx157_0, hx157_1, hx157_2⟩ := at_T33 HR1.out x8_1 p157 q157
                  have hw157_2 := hx157_2
                  have hw157_1 := hx157_1
                  have hw157_0 := hx157_0
                  obtain rfl : ad155 = ad157 := (by injection e157)
                  replace hx157_0 := (HB.out.cell (World.block_lt_of_cell? w _ hx157_0)).trans hx157_0
                  replace hx157_1 := (HB.out.cell (World.block_lt_of_cell? w _ hx157_1)).trans hx157_1
                  replace hx157_2 := (HB.out.cell (World.block_lt_of_cell? w _ hx157_2)).trans hx157_2
                  replace p157 := eq_true p157
                  replace q157 := eq_true q157
                  refine start_ (n := 18) (S := fun w' => w'.cell? ⟨gb153, 0, none⟩ = some (.int .i64 x154000_1) ∧ w'.cell? ⟨gb153, 1, none⟩ = some (.int .u64 x154001_1) ∧ w'.cell? ⟨gb153, 2, none⟩ = some (.int .u64 x154002_1) ∧ w'.cell? ⟨gb153, 3, none⟩ = some (.int .u64 x154003_1) ∧ w'.cell? ⟨gb153, 4, none⟩ = some (.int .u64 x154004_1) ∧ w'.cell? ⟨gb153, 5, none⟩ = some (.int .u64 x154005_1) ∧ w'.cell? ⟨gb153, 6, none⟩ = some (.int .u64 x154006_1) ∧ w'.cell? (ad155.add ((x8_1).toNat * 3)) = some (.int .u64 ((rd_T33 l1 x8_1).f0)) ∧ w'.cell? ⟨(ad155.add ((x8_1).toNat * 3)).block, (ad155.add ((x8_1).toNat * 3)).off + 1, none⟩ = some (.int .u64 ((rd_T33 l1 x8_1).f1)) ∧ w'.cell? ⟨(ad155.add ((x8_1).toNat * 3)).block, (ad155.add ((x8_1).toNat * 3)).off + 2, none⟩ = some (.int .u64 ((rd_T33 l1 x8_1).f2)) ∧ w'.cell? (ad155.add ((x8_1).toNat * 3)) = some (.int .u64 ((rd_T33 l1 x8_1).f0)) ∧ w'.cell? ⟨(ad155.add ((x8_1).toNat * 3)).block, (ad155.add ((x8_1).toNat * 3)).off + 1, none⟩ = some (.int .u64 ((rd_T33 l1 x8_1).f1)) ∧ w'.cell? ⟨(ad155.add ((x8_1).toNat * 3)).block, (ad155.add ((x8_1).toNat * 3)).off + 2, none⟩ = some (.int .u64 ((rd_T33 l1 x8_1).f2)) ∧ w'.cell? (ad155.add ((x8_1).toNat * 3)) = some (.int .u64 ((rd_T33 l1 x8_1).f0)) ∧ w'.cell? ⟨(ad155.add ((x8_1).toNat * 3)).block, (ad155.add ((x8_1).toNat * 3)).off + 1, none⟩ = some (.int .u64 ((rd_T33 l1 x8_1).f1)) ∧ w'.cell? ⟨(ad155.add ((x8_1).toNat * 3)).block, (ad155.add ((x8_1).toNat * 3)).off + 2, none⟩ = some (.int .u64 ((rd_T33 l1 x8_1).f2))) (ds := [17]) #[false, false, false, false, false, false, false, false, false, false, false, false, false, false, false, false, false, false] (by kernel_rfl) rfl rfl ⟨(blk_cell BK153.out 0).trans rfl, (blk_cell BK153.out 1).trans rfl, (blk_cell BK153.out 2).trans rfl, (blk_cell BK153.out 3).trans rfl, (blk_cell BK153.out 4).trans rfl, (blk_cell BK153.out 5).trans rfl, (blk_cell BK153.out 6).trans rfl, ((HB.out.cell (World.block_lt_of_cell? w _ hw155_0)).trans hw155_0), ((HB.out.cell (World.block_lt_of_cell? w _ hw155_1)).trans hw155_1), ((HB.out.cell (World.block_lt_of_cell? w _ hw155_2)).trans hw155_2), ((HB.out.cell (World.block_lt_of_cell? w _ hw156_0)).trans hw156_0), ((HB.out.cell (World.block_lt_of_cell? w _ hw156_1)).trans hw156_1), ((HB.out.cell (World.block_lt_of_cell? w _ hw156_2)).trans hw156_2), ((HB.out.cell (World.block_lt_of_cell? w _ hw157_0)).trans hw157_0), ((HB.out.cell (World.block_lt_of_cell? w _ hw157_1)).trans hw157_1), ((HB.out.cell (World.block_lt_of_cell? w _ hw157_2)).trans hw157_2)⟩ (fun hHeld => ?_); refine with_tabW wigwaglaw11_HystartEnds.tab8 wigwaglaw11_HystartEnds.bits8 (fun HT_ HW_ => ?_)
                  generalize w54.drew = w55 at BK153 BK154 HB hx155_0 hx155_1 hx155_2 hx156_0 hx156_1 hx156_2 hx157_0 hx157_1 hx157_2 hHeld ⊢
                  refine pure_ (i := 1) (N := some 25) (v := ?_) (a' := ?_) #[false, true, false, false, false, false, false, false, false, false, false, false, false, false, false, false, false, false] rfl rfl (any_of HT_.out (by kernel_rfl)) (fun _ _ _ h => h) (Or.inl ⟨by rfl, ?_⟩) ?_ ?_
                  rotate_left
                  · intro w'
                    go_simp
                    with_reducible rfl
                  rotate_left
                  · simp only [Act.put, List.setIfInBounds_toArray, List.set_cons_zero, List.set_cons_succ, i64_w, i32_w]
                    rfl
                  refine pure_ (i := 2) (N := some 26) (v := ?_) (a' := ?_) #[false, true, true, false, false, false, false, false, false, false, false, false, false, false, false, false, false, false] rfl rfl (any_of HT_.out (by kernel_rfl)) (fun _ _ _ h => h) (Or.inl ⟨by rfl, ?_⟩) ?_ ?_
                  rotate_left
                  · intro w'
                    go_simp
                    with_reducible rfl
                  rotate_left
                  · simp only [Act.put, List.setIfInBounds_toArray, List.set_cons_zero, List.set_cons_succ, i64_w, i32_w]
                    rfl
                  refine pure_ (i := 3) (N := some 27) (v := ?_) (a' := ?_) #[false, true, true, true, false, false, false, false, false, false, false, false, false, false, false, false, false, false] rfl rfl (any_of HT_.out (by kernel_rfl)) (fun _ _ _ h => h) (Or.inl ⟨by rfl, ?_⟩) ?_ ?_
                  rotate_left
                  · intro w'
                    go_simp
                    with_reducible rfl
                  rotate_left
                  · simp only [Act.put, List.setIfInBounds_toArray, List.set_cons_zero, List.set_cons_succ, i64_w, i32_w]
                    rfl
                  refine pure_ (i := 4) (N := some 28) (v := ?_) (a' := ?_) #[false, true, true, true, true, false, false, false, false, false, false, false, false, false, false, false, false, false] rfl rfl (any_of HT_.out (by kernel_rfl)) (fun _ _ _ h => h) (Or.inl ⟨by rfl, ?_⟩) ?_ ?_
                  rotate_left
                  · intro w'
                    go_simp
                    with_reducible rfl
                  rotate_left
                  · simp only [Act.put, List.setIfInBounds_toArray, List.set_cons_zero, List.set_cons_succ, i64_w, i32_w]
                    rfl
                  refine pure_ (i := 6) (N := some 30) (v := ?_) (a' := ?_) #[false, true, true, true, true, false, true, false, false, false, false, false, false, false, false, false, false, false] rfl rfl (any_of HT_.out (by kernel_rfl)) (fun _ _ _ h => h) (Or.inl ⟨by rfl, ?_⟩) ?_ ?_
                  rotate_left
                  · intro w'
                    go_simp
                    with_reducible rfl
                  rotate_left
                  · simp only [Act.put, List.setIfInBounds_toArray, List.set_cons_zero, List.set_cons_succ, i64_w, i32_w]
                    rfl
                  refine pure_ (i := 7) (N := some 31) (v := ?_) (a' := ?_) #[false, true, true, true, true, false, true, true, false, false, false, false, false, false, false, false, false, false] rfl rfl (any_of HT_.out (by kernel_rfl)) (fun _ _ _ h => h) (Or.inl ⟨by rfl, ?_⟩) ?_ ?_
                  rotate_left
                  · intro w'
                    go_simp
                    with_reducible rfl
                  rotate_left
                  · simp only [Act.put, List.setIfInBounds_toArray, List.set_cons_zero, List.set_cons_succ, i64_w, i32_w]
                    rfl
                  refine pure_ (i := 8) (N := some 32) (v := ?_) (a' := ?_) #[false, true, true, true, true, false, true, true, true, false, false, false, false, false, false, false, false, false] rfl rfl (any_of HT_.out (by kernel_rfl)) (fun _ _ _ h => h) (Or.inl ⟨by rfl, ?_⟩) ?_ ?_
                  rotate_left
                  · intro w'
                    go_simp
                    with_reducible rfl
                  rotate_left
                  · simp only [Act.put, List.setIfInBounds_toArray, List.set_cons_zero, List.set_cons_succ, i64_w, i32_w]
                    rfl
                  refine pure_ (i := 9) (N := some 33) (v := ?_) (a' := ?_) #[false, true, true, true, true, false, true, true, true, true, false, false, false, false, false, false, false, false] rfl rfl (any_of HT_.out (by kernel_rfl)) (fun _ _ _ h => h) (Or.inl ⟨by rfl, ?_⟩) ?_ ?_
                  rotate_left
                  · intro w'
                    go_simp
                    with_reducible rfl
                  rotate_left
                  · simp only [Act.put, List.setIfInBounds_toArray, List.set_cons_zero, List.set_cons_succ, i64_w, i32_w]
                    rfl
                  refine pure_ (i := 11) (N := some 35) (v := ?_) (a' := ?_) #[false, true, true, true, true, false, true, true, true, true, false, true, false, false, false, false, false, false] rfl rfl (any_of HT_.out (by kernel_rfl)) (fun _ _ _ h => h) (Or.inl ⟨by rfl, ?_⟩) ?_ ?_
                  rotate_left
                  · intro w'
                    go_simp
                    with_reducible rfl
                  rotate_left
                  · simp only [Act.put, List.setIfInBounds_toArray, List.set_cons_zero, List.set_cons_succ, i64_w, i32_w]
                    rfl
                  refine pure_ (i := 12) (N := some 36) (v := ?_) (a' := ?_) #[false, true, true, true, true, false, true, true, true, true, false, true, true, false, false, false, false, false] rfl rfl (any_of HT_.out (by kernel_rfl)) (fun _ _ _ h => h) (Or.inl ⟨by rfl, ?_⟩) ?_ ?_
                  rotate_left
                  · intro w'
                    go_simp
                    with_reducible rfl
                  rotate_left
                  · simp only [Act.put, List.setIfInBounds_toArray, List.set_cons_zero, List.set_cons_succ, i64_w, i32_w]
                    rfl
                  refine pure_ (i := 13) (N := some 37) (v := ?_) (a' := ?_) #[false, true, true, true, true, false, true, true, true, true, false, true, true, true, false, false, false, false] rfl rfl (any_of HT_.out (by kernel_rfl)) (fun _ _ _ h => h) (Or.inl ⟨by rfl, ?_⟩) ?_ ?_
                  rotate_left
                  · intro w'
                    go_simp
                    with_reducible rfl
                  rotate_left
                  · simp only [Act.put, List.setIfInBounds_toArray, List.set_cons_zero, List.set_cons_succ, i64_w, i32_w]
                    rfl
                  refine pure_ (i := 14) (N := some 38) (v := ?_) (a' := ?_) #[false, true, true, true, true, false, true, true, true, true, false, true, true, true, true, false, false, false] rfl rfl (any_of HT_.out (by kernel_rfl)) (fun _ _ _ h => h) (Or.inl ⟨by rfl, ?_⟩) ?_ ?_
                  rotate_left
                  · intro w'
                    go_simp
                    with_reducible rfl
                  rotate_left
                  · simp only [Act.put, List.setIfInBounds_toArray, List.set_cons_zero, List.set_cons_succ, i64_w, i32_w]
                    rfl
                  refine take_ (i := 0) (N := some 24) (v := ?_) (a' := ?_) #[true, true, true, true, true, false, true, true, true, true, false, true, true, true, true, false, false, false] rfl rfl (take_ofW HT_.out HW_.out (by kernel_rfl)) (fun _ _ _ h => h) (Or.inl ⟨by rfl, ?_⟩) hHeld ?_ ?_
                  rotate_left
                  · rintro w' ⟨s0, s1, s2, s3, s4, s5, s6, s7, s8, s9, s10, s11, s12, s13, s14, s15⟩
                    go_simp
                    with_reducible rfl
                  rotate_left
                  · simp only [Act.put, List.setIfInBounds_toArray, List.set_cons_zero, List.set_cons_succ, i64_w, i32_w]
                    rfl
                  refine take_ (i := 5) (N := some 29) (v := ?_) (a' := ?_) #[true, true, true, true, true, true, true, true, true, true, false, true, true, true, true, false, false, false] rfl rfl (take_ofW HT_.out HW_.out (by kernel_rfl)) (fun _ _ _ h => h) (Or.inl ⟨by rfl, ?_⟩) hHeld ?_ ?_
                  rotate_left
                  · rintro w' ⟨s0, s1, s2, s3, s4, s5, s6, s7, s8, s9, s10, s11, s12, s13, s14, s15⟩
                    go_simp
                    with_reducible rfl
                  rotate_left
                  · simp only [Act.put, List.setIfInBounds_toArray, List.set_cons_zero, List.set_cons_succ, i64_w, i32_w]
                    rfl
                  refine take_ (i := 10) (N := some 34) (v := ?_) (a' := ?_) #[true, true, true, true, true, true, true, true, true, true, true, true, true, true, true, false, false, false] rfl rfl (take_ofW HT_.out HW_.out (by kernel_rfl)) (fun _ _ _ h => h) (Or.inl ⟨by rfl, ?_⟩) hHeld ?_ ?_
                  rotate_left
                  · rintro w' ⟨s0, s1, s2, s3, s4, s5, s6, s7, s8, s9, s10, s11, s12, s13, s14, s15⟩
                    go_simp
                    with_reducible rfl
                  rotate_left
                  · simp only [Act.put, List.setIfInBounds_toArray, List.set_cons_zero, List.set_cons_succ, i64_w, i32_w]
                    rfl
                  refine take_ (i := 15) (N := some 39) (v := ?_) (a' := ?_) #[true, true, true, true, true, true, true, true, true, true, true, true, true, true, true, true, false, false] rfl rfl (take_ofW HT_.out HW_.out (by kernel_rfl)) (fun _ _ _ h => h) (Or.inl ⟨by rfl, ?_⟩) hHeld ?_ ?_
                  rotate_left
                  · rintro w' ⟨s0, s1, s2, s3, s4, s5, s6, s7, s8, s9, s10, s11, s12, s13, s14, s15⟩
                    go_simp
                    with_reducible rfl
                  rotate_left
                  · simp only [Act.put, List.setIfInBounds_toArray, List.set_cons_zero, List.set_cons_succ, i64_w, i32_w]
                    rfl
                  refine one_ (i := 16) (N := some 40) #[true, true, true, true, true, true, true, true, true, true, true, true, true, true, true, true, true, false] rfl rfl (one_of HT_.out (by kernel_rfl)) (by decide) (fun K hK => ?_)
                  refine goes_ Try.func10 (by kernel_rfl) rfl #[.agg #[.int .i64 x154000_1, .int .u64 x154001_1, .int .u64 x154002_1, .int .u64 x154003_1, .int .u64 x154004_1, .int .u64 x154005_1, .int .u64 x154006_1], .int .u64 ((rd_T33 l1 x8_1).f0), .int .u64 ((rd_T33 l1 x8_1).f1), .int .u64 ((rd_T33 l1 x8_1).f2)] (by rfl) rfl rfl (by (try simp only [List.map_toArray, List.map_cons, List.map_nil]); first | done | rfl | (simp only [List.length_drop, List.length_take]; rfl)) ?_
                  with_reducible refine (hystart_Sample.calls kj8 x154000_1 x154001_1 x154002_1 x154003_1 x154004_1 x154005_1 x154006_1 ((rd_T33 l1 x8_1).f0) ((rd_T33 l1 x8_1).f1) ((rd_T33 l1 x8_1).f2) t158 t159 t160 t161 t162 t163 t164 _ A14.out).mono ?_
                  rintro e w56 ⟨rfl, hb⟩
                  refine ⟨_, rfl, ?_⟩
                  have n0_ := Aside0.mk (blk_below (g := gb153) (o := .cells #[.int .i64 x154000_1, .int .u64 x154001_1, .int .u64 x154002_1, .int .u64 x154003_1, .int .u64 x154004_1, .int .u64 x154005_1, .int .u64 x154006_1] 25 (0, 0)) (by (with_reducible repeat (first | refine blk_drewN ?_ _ | refine blk_drew ?_ | refine blk_alloc ?_ _)); exact BK153.out) hb)
                  have n1_ := Aside0.mk (blk_below (g := gb154) (o := .cells #[.int .i64 x154000_1, .int .u64 x154001_1, .int .u64 x154002_1, .int .u64 x154003_1, .int .u64 x154004_1, .int .u64 x154005_1, .int .u64 x154006_1] 25 (0, 0)) (by (with_reducible repeat (first | refine blk_drewN ?_ _ | refine blk_drew ?_ | refine blk_alloc ?_ _)); exact BK154.out) hb)
                  have n2_ := Aside0.mk (below_step (by repeat (first | (with_reducible first | exact HB.out | apply below_alloc | apply pw_below_drewN | apply below_drew1 | refine below_set ?_ GE153.out | refine below_set ?_ GE154.out) | exact HB.out)) hb)
                  clear BK153
                  clear BK154
                  clear HB
                  have BK153 := n0_
                  have BK154 := n1_
                  have HB := n2_
                  clear n0_ n1_ n2_
                  (try clear hb)
                  (try clear hb2)
                  (try clear hk)
                  (try clear hi)
                  refine hK.out _ _ ⟨(blk_cell BK153.out 0).trans rfl, (blk_cell BK153.out 1).trans rfl, (blk_cell BK153.out 2).trans rfl, (blk_cell BK153.out 3).trans rfl, (blk_cell BK153.out 4).trans rfl, (blk_cell BK153.out 5).trans rfl, (blk_cell BK153.out 6).trans rfl, ((HB.out.cell (World.block_lt_of_cell? w _ hw155_0)).trans hw155_0), ((HB.out.cell (World.block_lt_of_cell? w _ hw155_1)).trans hw155_1), ((HB.out.cell (World.block_lt_of_cell? w _ hw155_2)).trans hw155_2), ((HB.out.cell (World.block_lt_of_cell? w _ hw156_0)).trans hw156_0), ((HB.out.cell (World.block_lt_of_cell? w _ hw156_1)).trans hw156_1), ((HB.out.cell (World.block_lt_of_cell? w _ hw156_2)).trans hw156_2), ((HB.out.cell (World.block_lt_of_cell? w _ hw157_0)).trans hw157_0), ((HB.out.cell (World.block_lt_of_cell? w _ hw157_1)).trans hw157_1), ((HB.out.cell (World.block_lt_of_cell? w _ hw157_2)).trans hw157_2)⟩ (fun hHeld => ?_)
                  clear hK K
                  refine norm_ (a' := ?_) ?_ ?_
                  rotate_left
                  · show Act.put _ (some 40) _ = _
                    simp only [Act.put, List.setIfInBounds_toArray, List.set_cons_zero, List.set_cons_succ, i64_w, i32_w]
                    rfl
                  refine last_ (i := 17) (N := none) #[true, true, true, true, true, true, true, true, true, true, true, true, true, true, true, true, true, true] rfl rfl (one_of HT_.out (by kernel_rfl)) (by decide) (fun K hK => ?_)
                  have hs57 : w56.cell? ⟨gb153, 0, none⟩ = some (.int .i64 x154000_1) := (blk_cell BK153.out 0).trans rfl
                  have hfs57 := blk_frozen BK153.out 0
                  have hns57_1 := NB154_153.out
                  have hms57_1 := NB153_154.out
                  have hs58 : w56.cell? ⟨gb153, 1, none⟩ = some (.int .u64 x154001_1) := (blk_cell BK153.out 1).trans rfl
                  have hfs58 := blk_frozen BK153.out 1
                  have hns58_1 := NB154_153.out
                  have hms58_1 := NB153_154.out
                  have hs59 : w56.cell? ⟨gb153, 2, none⟩ = some (.int .u64 x154002_1) := (blk_cell BK153.out 2).trans rfl
                  have hfs59 := blk_frozen BK153.out 2
                  have hns59_1 := NB154_153.out
                  have hms59_1 := NB153_154.out
                  have hs60 : w56.cell? ⟨gb153, 3, none⟩ = some (.int .u64 x154003_1) := (blk_cell BK153.out 3).trans rfl
                  have hfs60 := blk_frozen BK153.out 3
                  have hns60_1 := NB154_153.out
                  have hms60_1 := NB153_154.out
                  have hs61 : w56.cell? ⟨gb153, 4, none⟩ = some (.int .u64 x154004_1) := (blk_cell BK153.out 4).trans rfl
                  have hfs61 := blk_frozen BK153.out 4
                  have hns61_1 := NB154_153.out
                  have hms61_1 := NB153_154.out
                  have hs62 : w56.cell? ⟨gb153, 5, none⟩ = some (.int .u64 x154005_1) := (blk_cell BK153.out 5).trans rfl
                  have hfs62 := blk_frozen BK153.out 5
                  have hns62_1 := NB154_153.out
                  have hms62_1 := NB153_154.out
                  have hs63 : w56.cell? ⟨gb153, 6, none⟩ = some (.int .u64 x154006_1) := (blk_cell BK153.out 6).trans rfl
                  have hfs63 := blk_frozen BK153.out 6
                  have hns63_1 := NB154_153.out
                  have hms63_1 := NB153_154.out
                  refine skip_ (w1 := ?_) (by rfl) rfl ?_ ?_
                  rotate_left
                  · go_simp
                    rfl
                  refine hK.out _ _ ?_
                  clear hK K
                  refine done_ (done_of HT_.out (by kernel_rfl)) ?_
                  have hcz64_0 : w56.cell? ⟨gb154, 0, none⟩ = some (.int .i64 x154000_1) := (blk_cell BK154.out 0).trans rfl
                  have hcz64_1 : w56.cell? ⟨gb154, 1, none⟩ = some (.int .u64 x154001_1) := (blk_cell BK154.out 1).trans rfl
                  have hcz64_2 : w56.cell? ⟨gb154, 2, none⟩ = some (.int .u64 x154002_1) := (blk_cell BK154.out 2).trans rfl
                  have hcz64_3 : w56.cell? ⟨gb154, 3, none⟩ = some (.int .u64 x154003_1) := (blk_cell BK154.out 3).trans rfl
                  have hcz64_4 : w56.cell? ⟨gb154, 4, none⟩ = some (.int .u64 x154004_1) := (blk_cell BK154.out 4).trans rfl
                  have hcz64_5 : w56.cell? ⟨gb154, 5, none⟩ = some (.int .u64 x154005_1) := (blk_cell BK154.out 5).trans rfl
                  have hcz64_6 : w56.cell? ⟨gb154, 6, none⟩ = some (.int .u64 x154006_1) := (blk_cell BK154.out 6).trans rfl
                  have hfz64_0 := blk_frozen BK154.out 0
                  have hfz64_1 := blk_frozen BK154.out 1
                  have hfz64_2 := blk_frozen BK154.out 2
                  have hfz64_3 := blk_frozen BK154.out 3
                  have hfz64_4 := blk_frozen BK154.out 4
                  have hfz64_5 := blk_frozen BK154.out 5
                  have hfz64_6 := blk_frozen BK154.out 6
                  try go_wp2
                  have n0_ : Aside0 ((((((((w56.setCell ⟨gb153, 0, none⟩ (.int .i64 t158)).setCell ⟨gb153, 1, none⟩ (.int .u64 t159)).setCell ⟨gb153, 2, none⟩ (.int .u64 t160)).setCell ⟨gb153, 3, none⟩ (.int .u64 t161)).setCell ⟨gb153, 4, none⟩ (.int .u64 t162)).setCell ⟨gb153, 5, none⟩ (.int .u64 t163)).setCell ⟨gb153, 6, none⟩ (.int .u64 t164)).heap[gb153]? = some (.cells #[.int .i64 t158, .int .u64 t159, .int .u64 t160, .int .u64 t161, .int .u64 t162, .int .u64 t163, .int .u64 t164] 25 (0, 0))) := ⟨by (with_reducible repeat (first | refine blk_drewN ?_ _ | refine blk_drew ?_ | refine blk_alloc ?_ _)); refine blk_put (cs := #[.int .i64 t158, .int .u64 t159, .int .u64 t160, .int .u64 t161, .int .u64 t162, .int .u64 t163, .int .u64 x154006_1]) ?_ 6 _ rfl; (with_reducible repeat (first | refine blk_drewN ?_ _ | refine blk_drew ?_ | refine blk_alloc ?_ _)); refine blk_put (cs := #[.int .i64 t158, .int .u64 t159, .int .u64 t160, .int .u64 t161, .int .u64 t162, .int .u64 x154005_1, .int .u64 x154006_1]) ?_ 5 _ rfl; (with_reducible repeat (first | refine blk_drewN ?_ _ | refine blk_drew ?_ | refine blk_alloc ?_ _)); refine blk_put (cs := #[.int .i64 t158, .int .u64 t159, .int .u64 t160, .int .u64 t161, .int .u64 x154004_1, .int .u64 x154005_1, .int .u64 x154006_1]) ?_ 4 _ rfl; (with_reducible repeat (first | refine blk_drewN ?_ _ | refine blk_drew ?_ | refine blk_alloc ?_ _)); refine blk_put (cs := #[.int .i64 t158, .int .u64 t159, .int .u64 t160, .int .u64 x154003_1, .int .u64 x154004_1, .int .u64 x154005_1, .int .u64 x154006_1]) ?_ 3 _ rfl; (with_reducible repeat (first | refine blk_drewN ?_ _ | refine blk_drew ?_ | refine blk_alloc ?_ _)); refine blk_put (cs := #[.int .i64 t158, .int .u64 t159, .int .u64 x154002_1, .int .u64 x154003_1, .int .u64 x154004_1, .int .u64 x154005_1, .int .u64 x154006_1]) ?_ 2 _ rfl; (with_reducible repeat (first | refine blk_drewN ?_ _ | refine blk_drew ?_ | refine blk_alloc ?_ _)); refine blk_put (cs := #[.int .i64 t158, .int .u64 x154001_1, .int .u64 x154002_1, .int .u64 x154003_1, .int .u64 x154004_1, .int .u64 x154005_1, .int .u64 x154006_1]) ?_ 1 _ rfl; (with_reducible repeat (first | refine blk_drewN ?_ _ | refine blk_drew ?_ | refine blk_alloc ?_ _)); refine blk_put (cs := #[.int .i64 x154000_1, .int .u64 x154001_1, .int .u64 x154002_1, .int .u64 x154003_1, .int .u64 x154004_1, .int .u64 x154005_1, .int .u64 x154006_1]) ?_ 0 _ rfl; (with_reducible repeat (first | refine blk_drewN ?_ _ | refine blk_drew ?_ | refine blk_alloc ?_ _)); exact BK153.out⟩
                  have n1_ : Aside0 ((((((((w56.setCell ⟨gb153, 0, none⟩ (.int .i64 t158)).setCell ⟨gb153, 1, none⟩ (.int .u64 t159)).setCell ⟨gb153, 2, none⟩ (.int .u64 t160)).setCell ⟨gb153, 3, none⟩ (.int .u64 t161)).setCell ⟨gb153, 4, none⟩ (.int .u64 t162)).setCell ⟨gb153, 5, none⟩ (.int .u64 t163)).setCell ⟨gb153, 6, none⟩ (.int .u64 t164)).heap[gb154]? = some (.cells #[.int .i64 x154000_1, .int .u64 x154001_1, .int .u64 x154002_1, .int .u64 x154003_1, .int .u64 x154004_1, .int .u64 x154005_1, .int .u64 x154006_1] 25 (0, 0))) := ⟨by (with_reducible repeat (first | refine blk_drewN ?_ _ | refine blk_drew ?_ | refine blk_alloc ?_ _)); refine blk_far ?_ NB154_153.out _; (with_reducible repeat (first | refine blk_drewN ?_ _ | refine blk_drew ?_ | refine blk_alloc ?_ _)); refine blk_far ?_ NB154_153.out _; (with_reducible repeat (first | refine blk_drewN ?_ _ | refine blk_drew ?_ | refine blk_alloc ?_ _)); refine blk_far ?_ NB154_153.out _; (with_reducible repeat (first | refine blk_drewN ?_ _ | refine blk_drew ?_ | refine blk_alloc ?_ _)); refine blk_far ?_ NB154_153.out _; (with_reducible repeat (first | refine blk_drewN ?_ _ | refine blk_drew ?_ | refine blk_alloc ?_ _)); refine blk_far ?_ NB154_153.out _; (with_reducible repeat (first | refine blk_drewN ?_ _ | refine blk_drew ?_ | refine blk_alloc ?_ _)); refine blk_far ?_ NB154_153.out _; (with_reducible repeat (first | refine blk_drewN ?_ _ | refine blk_drew ?_ | refine blk_alloc ?_ _)); refine blk_far ?_ NB154_153.out _; (with_reducible repeat (first | refine blk_drewN ?_ _ | refine blk_drew ?_ | refine blk_alloc ?_ _)); exact BK154.out⟩
                  have n2_ : Aside0 (Below w.heap.size w (((((((w56.setCell ⟨gb153, 0, none⟩ (.int .i64 t158)).setCell ⟨gb153, 1, none⟩ (.int .u64 t159)).setCell ⟨gb153, 2, none⟩ (.int .u64 t160)).setCell ⟨gb153, 3, none⟩ (.int .u64 t161)).setCell ⟨gb153, 4, none⟩ (.int .u64 t162)).setCell ⟨gb153, 5, none⟩ (.int .u64 t163)).setCell ⟨gb153, 6, none⟩ (.int .u64 t164))) := ⟨by repeat (first | (with_reducible first | exact HB.out | apply below_alloc | apply pw_below_drewN | apply below_drew1 | refine below_set ?_ GE153.out | refine below_set ?_ GE154.out) | exact HB.out)⟩
                  (try clear BK153)
                  (try clear BK154)
                  (try clear HB)
                  generalize (((((((w56.setCell ⟨gb153, 0, none⟩ (.int .i64 t158)).setCell ⟨gb153, 1, none⟩ (.int .u64 t159)).setCell ⟨gb153, 2, none⟩ (.int .u64 t160)).setCell ⟨gb153, 3, none⟩ (.int .u64 t161)).setCell ⟨gb153, 4, none⟩ (.int .u64 t162)).setCell ⟨gb153, 5, none⟩ (.int .u64 t163)).setCell ⟨gb153, 6, none⟩ (.int .u64 t164)) = w65 at n0_ n1_ n2_ ⊢
                  have BK153 := n0_
                  have BK154 := n1_
                  have HB := n2_
                  clear n0_ n1_ n2_
                  have n0_ := Aside0.mk (blk_drew BK153.out)
                  have n1_ := Aside0.mk (blk_drew BK154.out)
                  have n2_ := Aside0.mk (below_drew1 HB.out)
                  clear BK153
                  clear BK154
                  clear HB
                  have BK153 := n0_
                  have BK154 := n1_
                  have HB := n2_
                  clear n0_ n1_ n2_
                  have p165 : 0 ≤ (x8_1 : Int) := of_decide_eq_true (by first | (with_reducible assumption) | assumption)
                  have q165 : x8_1 < (l1.length : Int) := of_decide_eq_true (by first | (with_reducible assumption) | assumption)
                  obtain ⟨ad165, e165, hx165_0, hx165_1, hx165_2⟩ := at_T33 HR1.out x8_1 p165 q165
                  have hw165_2 := hx165_2
                  have hw165_1 := hx165_1
                  have hw165_0 := hx165_0
                  obtain rfl : ad155 = ad165 := (by injection e165)
                  replace hx165_0 := (HB.out.cell (World.block_lt_of_cell? w _ hx165_0)).trans hx165_0
                  replace hx165_1 := (HB.out.cell (World.block_lt_of_cell? w _ hx165_1)).trans hx165_1
                  replace hx165_2 := (HB.out.cell (World.block_lt_of_cell? w _ hx165_2)).trans hx165_2
                  replace p165 := eq_true p165
                  replace q165 := eq_true q165
                  refine start_ (n := 8) (S := fun w' => w'.cell? ⟨gb154, 0, none⟩ = some (.int .i64 x154000_1) ∧ w'.cell? ⟨gb154, 1, none⟩ = some (.int .u64 x154001_1) ∧ w'.cell? ⟨gb154, 2, none⟩ = some (.int .u64 x154002_1) ∧ w'.cell? ⟨gb154, 3, none⟩ = some (.int .u64 x154003_1) ∧ w'.cell? ⟨gb154, 4, none⟩ = some (.int .u64 x154004_1) ∧ w'.cell? ⟨gb154, 5, none⟩ = some (.int .u64 x154005_1) ∧ w'.cell? ⟨gb154, 6, none⟩ = some (.int .u64 x154006_1) ∧ w'.cell? (ad155.add ((x8_1).toNat * 3)) = some (.int .u64 ((rd_T33 l1 x8_1).f0)) ∧ w'.cell? ⟨(ad155.add ((x8_1).toNat * 3)).block, (ad155.add ((x8_1).toNat * 3)).off + 1, none⟩ = some (.int .u64 ((rd_T33 l1 x8_1).f1)) ∧ w'.cell? ⟨(ad155.add ((x8_1).toNat * 3)).block, (ad155.add ((x8_1).toNat * 3)).off + 2, none⟩ = some (.int .u64 ((rd_T33 l1 x8_1).f2))) (ds := []) #[false, false, false, false, false, false, false, false] (by kernel_rfl) rfl rfl ⟨(blk_cell BK154.out 0).trans rfl, (blk_cell BK154.out 1).trans rfl, (blk_cell BK154.out 2).trans rfl, (blk_cell BK154.out 3).trans rfl, (blk_cell BK154.out 4).trans rfl, (blk_cell BK154.out 5).trans rfl, (blk_cell BK154.out 6).trans rfl, ((HB.out.cell (World.block_lt_of_cell? w _ hw165_0)).trans hw165_0), ((HB.out.cell (World.block_lt_of_cell? w _ hw165_1)).trans hw165_1), ((HB.out.cell (World.block_lt_of_cell? w _ hw165_2)).trans hw165_2)⟩ (fun hHeld => ?_); refine with_tabW wigwaglaw11_HystartEnds.tab12 wigwaglaw11_HystartEnds.bits12 (fun HT_ HW_ => ?_)
                  generalize w65.drew = w66 at BK153 BK154 HB hx165_0 hx165_1 hx165_2 hHeld ⊢
                  refine pure_ (i := 0) (N := some 47) (v := ?_) (a' := ?_) #[true, false, false, false, false, false, false, false] rfl rfl (any_of HT_.out (by kernel_rfl)) (fun _ _ _ h => h) (Or.inl ⟨by rfl, ?_⟩) ?_ ?_
                  rotate_left
                  · intro w'
                    go_simp
                    with_reducible rfl
                  rotate_left
                  · simp only [Act.put, List.setIfInBounds_toArray, List.set_cons_zero, List.set_cons_succ, i64_w, i32_w]
                    rfl
                  refine pure_ (i := 1) (N := some 48) (v := ?_) (a' := ?_) #[true, true, false, false, false, false, false, false] rfl rfl (any_of HT_.out (by kernel_rfl)) (fun _ _ _ h => h) (Or.inl ⟨by rfl, ?_⟩) ?_ ?_
                  rotate_left
                  · intro w'
                    go_simp
                    with_reducible rfl
                  rotate_left
                  · simp only [Act.put, List.setIfInBounds_toArray, List.set_cons_zero, List.set_cons_succ, i64_w, i32_w]
                    rfl
                  refine pure_ (i := 2) (N := some 49) (v := ?_) (a' := ?_) #[true, true, true, false, false, false, false, false] rfl rfl (any_of HT_.out (by kernel_rfl)) (fun _ _ _ h => h) (Or.inl ⟨by rfl, ?_⟩) ?_ ?_
                  rotate_left
                  · intro w'
                    go_simp
                    with_reducible rfl
                  rotate_left
                  · simp only [Act.put, List.setIfInBounds_toArray, List.set_cons_zero, List.set_cons_succ, i64_w, i32_w]
                    rfl
                  refine pure_ (i := 3) (N := some 50) (v := ?_) (a' := ?_) #[true, true, true, true, false, false, false, false] rfl rfl (any_of HT_.out (by kernel_rfl)) (fun _ _ _ h => h) (Or.inl ⟨by rfl, ?_⟩) ?_ ?_
                  rotate_left
                  · intro w'
                    go_simp
                    with_reducible rfl
                  rotate_left
                  · simp only [Act.put, List.setIfInBounds_toArray, List.set_cons_zero, List.set_cons_succ, i64_w, i32_w]
                    rfl
                  refine pure_ (i := 5) (N := some 52) (v := ?_) (a' := ?_) #[true, true, true, true, false, true, false, false] rfl rfl (any_of HT_.out (by kernel_rfl)) (fun _ _ _ h => h) (Or.inl ⟨by rfl, ?_⟩) ?_ ?_
                  rotate_left
                  · intro w'
                    go_simp
                    with_reducible rfl
                  rotate_left
                  · simp only [Act.put, List.setIfInBounds_toArray, List.set_cons_zero, List.set_cons_succ, i64_w, i32_w]
                    rfl
                  refine take_ (i := 4) (N := some 51) (v := ?_) (a' := ?_) #[true, true, true, true, true, true, false, false] rfl rfl (take_ofW HT_.out HW_.out (by kernel_rfl)) (fun _ _ _ h => h) (Or.inl ⟨by rfl, ?_⟩) hHeld ?_ ?_
                  rotate_left
                  · rintro w' ⟨s0, s1, s2, s3, s4, s5, s6, s7, s8, s9⟩
                    go_simp
                    with_reducible rfl
                  rotate_left
                  · simp only [Act.put, List.setIfInBounds_toArray, List.set_cons_zero, List.set_cons_succ, i64_w, i32_w]
                    rfl
                  refine take_ (i := 6) (N := some 53) (v := ?_) (a' := ?_) #[true, true, true, true, true, true, true, false] rfl rfl (take_ofW HT_.out HW_.out (by kernel_rfl)) (fun _ _ _ h => h) (Or.inl ⟨by rfl, ?_⟩) hHeld ?_ ?_
                  rotate_left
                  · rintro w' ⟨s0, s1, s2, s3, s4, s5, s6, s7, s8, s9⟩
                    go_simp
                    with_reducible rfl
                  rotate_left
                  · simp only [Act.put, List.setIfInBounds_toArray, List.set_cons_zero, List.set_cons_succ, i64_w, i32_w]
                    rfl
                  refine pure_ (i := 7) (N := some 54) (v := ?_) (a' := ?_) #[true, true, true, true, true, true, true, true] rfl rfl (any_of HT_.out (by kernel_rfl)) (fun _ _ _ h => h) (Or.inl ⟨by rfl, ?_⟩) ?_ ?_
                  rotate_left
                  · intro w'
                    go_simp
                    with_reducible rfl
                  rotate_left
                  · simp only [Act.put, List.setIfInBounds_toArray, List.set_cons_zero, List.set_cons_succ, i64_w, i32_w]
                    rfl
                  refine done_ (done_of HT_.out (by kernel_rfl)) ?_
                  go_upto_if 54 with (fail)
                  go_cut [7] (fun v7 wc => ∃ (kq : Nat) (x7_48 : Int), v7 = .int .u64 x7_48 ∧ Aside0 (wigwaglaw11_HystartEnds.j2 kq l1 t145 x7_48 x8_1 t158 t159 t160 t161 t162 t163 t164 x154000_1 x154001_1 x154002_1 x154003_1 x154004_1 x154005_1 x154006_1 = some r) ∧ Aside0 (kq ≤ kj8) ∧ Aside0 (wc.heap[gb153]? = some (.cells #[.int .i64 t158, .int .u64 t159, .int .u64 t160, .int .u64 t161, .int .u64 t162, .int .u64 t163, .int .u64 t164] 25 (0, 0))) ∧ Aside0 (wc.heap[gb154]? = some (.cells #[.int .i64 x154000_1, .int .u64 x154001_1, .int .u64 x154002_1, .int .u64 x154003_1, .int .u64 x154004_1, .int .u64 x154005_1, .int .u64 x154006_1] 25 (0, 0))) ∧ Aside0 (Below w.heap.size w wc))
                  case first =>
                    have H := HC49.out
                    clear HC49
                    by_cases c67 : ((rd_T33 l1 x8_1).f0) ≥ x154001_1
                    · rw [if_pos c67] at H
                      have c67b0 : decide (x154001_1 ≤ ((rd_T33 l1 x8_1).f0)) = true := decide_eq_true c67
                      clear c67
                      (first | rw [c67b0] | (simp only [i64_w, i32_w]; rw [c67b0]) | skip)
                      have H' := Aside0.mk H
                      clear H
                      go_wp2
                      go_meet
                      case rel => exact ⟨_, (18446744073709551615), (by first | rfl | (simp; done) | (simp [*]; done)), H', ⟨by have := HK1.out; have := HJ8.out; first | omega | exact Nat.le_refl _⟩, ⟨by (with_reducible repeat (first | refine blk_drewN ?_ _ | refine blk_drew ?_ | refine blk_alloc ?_ _)); exact BK153.out⟩, ⟨by (with_reducible repeat (first | refine blk_drewN ?_ _ | refine blk_drew ?_ | refine blk_alloc ?_ _)); exact BK154.out⟩, ⟨by repeat (first | (with_reducible first | exact HB.out | apply below_alloc | apply pw_below_drewN | apply below_drew1 | refine below_set ?_ GE153.out | refine below_set ?_ GE154.out) | exact HB.out)⟩⟩
                    · rw [if_neg c67] at H
                      have c67b0 : decide (x154001_1 ≤ ((rd_T33 l1 x8_1).f0)) = false := decide_eq_false c67
                      clear c67
                      (first | rw [c67b0] | (simp only [i64_w, i32_w]; rw [c67b0]) | skip)
                      have H' := Aside0.mk H
                      clear H
                      go_wp2
                      go_meet
                      case rel => exact ⟨_, (x7_1), (by first | rfl | (simp; done) | (simp [*]; done)), H', ⟨by have := HK1.out; have := HJ8.out; first | omega | exact Nat.le_refl _⟩, ⟨by (with_reducible repeat (first | refine blk_drewN ?_ _ | refine blk_drew ?_ | refine blk_alloc ?_ _)); exact BK153.out⟩, ⟨by (with_reducible repeat (first | refine blk_drewN ?_ _ | refine blk_drew ?_ | refine blk_alloc ?_ _)); exact BK154.out⟩, ⟨by repeat (first | (with_reducible first | exact HB.out | apply below_alloc | apply pw_below_drewN | apply below_drew1 | refine below_set ?_ GE153.out | refine below_set ?_ GE154.out) | exact HB.out)⟩⟩
                  case rest =>
                    clear HC49
                    try clear c1
                    try clear p1
                    try clear q1
                    try clear hx1
                    try clear p2
                    try clear c5
                    try clear c6
                    try clear p6
                    try clear c10
                    try clear c15
                    try clear c15b0
                    try clear c15b1
                    try clear p15
                    try clear q15
                    try clear hx15
                    try clear p16
                    try clear q16
                    try clear hx16
                    try clear c52
                    try clear p64
                    try clear c67
                    try clear c67b0
                    try clear hcz47_0
                    try clear hcz47_1
                    try clear hcz47_2
                    try clear hcz47_3
                    try clear hcz47_4
                    try clear hcz47_5
                    try clear hcz47_6
                    try clear hcz48_0
                    try clear hcz48_1
                    try clear hcz48_2
                    try clear hcz48_3
                    try clear hcz48_4
                    try clear hcz48_5
                    try clear hcz48_6
                    try clear hcz50_0
                    try clear hcz50_1
                    try clear hcz50_2
                    try clear hcz50_3
                    try clear hcz50_4
                    try clear hcz50_5
                    try clear hcz50_6
                    try clear hcz53_0
                    try clear hcz53_1
                    try clear hcz53_2
                    try clear hcz53_3
                    try clear hcz53_4
                    try clear hcz53_5
                    try clear hcz53_6
                    try clear hcz64_0
                    try clear hcz64_1
                    try clear hcz64_2
                    try clear hcz64_3
                    try clear hcz64_4
                    try clear hcz64_5
                    try clear hcz64_6
                    try clear hfz47_0
                    try clear hfz47_1
                    try clear hfz47_2
                    try clear hfz47_3
                    try clear hfz47_4
                    try clear hfz47_5
                    try clear hfz47_6
                    try clear hfz48_0
                    try clear hfz48_1
                    try clear hfz48_2
                    try clear hfz48_3
                    try clear hfz48_4
                    try clear hfz48_5
                    try clear hfz48_6
                    try clear hfz50_0
                    try clear hfz50_1
                    try clear hfz50_2
                    try clear hfz50_3
                    try clear hfz50_4
                    try clear hfz50_5
                    try clear hfz50_6
                    try clear hfz53_0
                    try clear hfz53_1
                    try clear hfz53_2
                    try clear hfz53_3
                    try clear hfz53_4
                    try clear hfz53_5
                    try clear hfz53_6
                    try clear hfz64_0
                    try clear hfz64_1
                    try clear hfz64_2
                    try clear hfz64_3
                    try clear hfz64_4
                    try clear hfz64_5
                    try clear hfz64_6
                    try clear hx155_0
                    try clear hx155_1
                    try clear hx155_2
                    try clear hx156_0
                    try clear hx156_1
                    try clear hx156_2
                    try clear hx157_0
                    try clear hx157_1
                    try clear hx157_2
                    try clear hx165_0
                    try clear hx165_1
                    try clear hx165_2
                    try clear p155
                    try clear p156
                    try clear p157
                    try clear p165
                    try clear q155
                    try clear q156
                    try clear q157
                    try clear q165
                    obtain ⟨kq, x7_48, rfl, HA, HJ48, BK153, BK154, HB⟩ := hcut
                    cases kq with
                    | zero => exact absurd HA.out (by simp [wigwaglaw11_HystartEnds.j2])
                    | succ kj48 =>
                      have H := HA.out
                      clear HA
                      simp only [wigwaglaw11_HystartEnds.j2] at H
                      by_cases c68 : 0 ≤ x8_1
                      · rw [if_pos c68] at H
                        have c68b0 : decide (0 ≤ x8_1) = true := decide_eq_true c68
                        clear c68
                        by_cases c69 : x8_1 < (l1.length : Int)
                        · rw [if_pos c69] at H
                          have c69b0 : decide (x8_1 < (l1.length : Int)) = true := decide_eq_true c69
                          clear c69
                          obtain ⟨ji70, hji70⟩ : ∃ j_ : Int, (mn x7_48 ((rd_T33 l1 x8_1).f2)) = j_ := ⟨_, rfl⟩
                          replace H : (if t158 = 2 then (if t164 > 5 then (wigwaglaw11_HystartEnds.j3 kj48 l1 t145 ji70 x8_1 true t158 t159 t160 t161 t162 t163 t164 x154000_1 x154001_1 x154002_1 x154003_1 x154004_1 x154005_1 x154006_1) else (if t158 < 0 then (wigwaglaw11_HystartEnds.j3 kj48 l1 t145 ji70 x8_1 true t158 t159 t160 t161 t162 t163 t164 x154000_1 x154001_1 x154002_1 x154003_1 x154004_1 x154005_1 x154006_1) else (wigwaglaw11_HystartEnds.j3 kj48 l1 t145 ji70 x8_1 (decide (t158 > 2)) t158 t159 t160 t161 t162 t163 t164 x154000_1 x154001_1 x154002_1 x154003_1 x154004_1 x154005_1 x154006_1))) else (if t161 = (ji70) then (if t164 > 5 then (wigwaglaw11_HystartEnds.j3 kj48 l1 t145 ji70 x8_1 true t158 t159 t160 t161 t162 t163 t164 x154000_1 x154001_1 x154002_1 x154003_1 x154004_1 x154005_1 x154006_1) else (if t158 < 0 then (wigwaglaw11_HystartEnds.j3 kj48 l1 t145 ji70 x8_1 true t158 t159 t160 t161 t162 t163 t164 x154000_1 x154001_1 x154002_1 x154003_1 x154004_1 x154005_1 x154006_1) else (wigwaglaw11_HystartEnds.j3 kj48 l1 t145 ji70 x8_1 (decide (t158 > 2)) t158 t159 t160 t161 t162 t163 t164 x154000_1 x154001_1 x154002_1 x154003_1 x154004_1 x154005_1 x154006_1))) else (wigwaglaw11_HystartEnds.j3 kj48 l1 t145 ji70 x8_1 true t158 t159 t160 t161 t162 t163 t164 x154000_1 x154001_1 x154002_1 x154003_1 x154004_1 x154005_1 x154006_1))) = some r := by first | (rw [hji70] at H; exact H) | (simp only [hji70] at H ⊢; exact H)
                          have hji70_ : (if ((rd_T33 l1 x8_1).f2) < x7_48 then ((rd_T33 l1 x8_1).f2) else x7_48) = ji70 := hji70
                          have HC71 := Aside0.mk H
                          clear H
                          have p166 : 0 ≤ (x8_1 : Int) := of_decide_eq_true (by first | (with_reducible assumption) | assumption)
                          have q166 : x8_1 < (l1.length : Int) := of_decide_eq_true (by first | (with_reducible assumption) | assumption)
                          obtain ⟨ad166, e166, hx166_0, hx166_1, hx166_2⟩ := at_T33 HR1.out x8_1 p166 q166
                          obtain rfl : ad155 = ad166 := (by injection e166)
                          replace hx166_0 := (HB.out.cell (World.block_lt_of_cell? w _ hx166_0)).trans hx166_0
                          replace hx166_1 := (HB.out.cell (World.block_lt_of_cell? w _ hx166_1)).trans hx166_1
                          replace hx166_2 := (HB.out.cell (World.block_lt_of_cell? w _ hx166_2)).trans hx166_2
                          replace p166 := eq_true p166
                          replace q166 := eq_true q166
                          go_upto_region 15 with (fail)
                          go_cut [85] (fun v85 wc => ∃ (kq : Nat) (x85_70 : Bool), v85 = .bool x85_70 ∧ Aside0 (wigwaglaw11_HystartEnds.j3 kq l1 t145 ji70 x8_1 x85_70 t158 t159 t160 t161 t162 t163 t164 x154000_1 x154001_1 x154002_1 x154003_1 x154004_1 x154005_1 x154006_1 = some r) ∧ Aside0 (kq ≤ kj48) ∧ Aside0 (wc.heap[gb153]? = some (.cells #[.int .i64 t158, .int .u64 t159, .int .u64 t160, .int .u64 t161, .int .u64 t162, .int .u64 t163, .int .u64 t164] 25 (0, 0))) ∧ Aside0 (wc.heap[gb154]? = some (.cells #[.int .i64 x154000_1, .int .u64 x154001_1, .int .u64 x154002_1, .int .u64 x154003_1, .int .u64 x154004_1, .int .u64 x154005_1, .int .u64 x154006_1] 25 (0, 0))) ∧ Aside0 (Below w.heap.size w wc))
                          case first =>
                            have H := HC71.out
                            clear HC71
                            by_cases c72 : t158 = 2
                            · rw [if_pos c72] at H
                              have c72b0 : (t158 == 2) = true := beq_iff_eq.mpr c72
                              have c72b1 : (t158 != 2) = false := bne_eq_false_iff_eq.mpr c72
                              clear c72
                              (first | rw [c72b0] | (simp only [i64_w, i32_w]; rw [c72b0]) | skip)
                              by_cases c73 : t164 > 5
                              · rw [if_pos c73] at H
                                have c73b0 : decide (5 < t164) = true := decide_eq_true c73
                                clear c73
                                have H' := Aside0.mk H
                                clear H
                                have hnb74 := NB153_154.out
                                have hnc74 := NB154_153.out
                                have hcz75_0 : wc.cell? ⟨gb153, 0, none⟩ = some (.int .i64 t158) := (blk_cell BK153.out 0).trans rfl
                                have hcz75_1 : wc.cell? ⟨gb153, 1, none⟩ = some (.int .u64 t159) := (blk_cell BK153.out 1).trans rfl
                                have hcz75_2 : wc.cell? ⟨gb153, 2, none⟩ = some (.int .u64 t160) := (blk_cell BK153.out 2).trans rfl
                                have hcz75_3 : wc.cell? ⟨gb153, 3, none⟩ = some (.int .u64 t161) := (blk_cell BK153.out 3).trans rfl
                                have hcz75_4 : wc.cell? ⟨gb153, 4, none⟩ = some (.int .u64 t162) := (blk_cell BK153.out 4).trans rfl
                                have hcz75_5 : wc.cell? ⟨gb153, 5, none⟩ = some (.int .u64 t163) := (blk_cell BK153.out 5).trans rfl
                                have hcz75_6 : wc.cell? ⟨gb153, 6, none⟩ = some (.int .u64 t164) := (blk_cell BK153.out 6).trans rfl
                                have hfz75_0 := blk_frozen BK153.out 0
                                have hfz75_1 := blk_frozen BK153.out 1
                                have hfz75_2 := blk_frozen BK153.out 2
                                have hfz75_3 := blk_frozen BK153.out 3
                                have hfz75_4 := blk_frozen BK153.out 4
                                have hfz75_5 := blk_frozen BK153.out 5
                                have hfz75_6 := blk_frozen BK153.out 6
                                go_wp2
                                go_meet
                                case rel => exact ⟨_, (true), (by first | rfl | (simp; done) | (simp [*]; done)), H', ⟨by have := HK1.out; have := HJ8.out; have := HJ48.out; first | omega | exact Nat.le_refl _⟩, ⟨by (with_reducible repeat (first | refine blk_drewN ?_ _ | refine blk_drew ?_ | refine blk_alloc ?_ _)); exact BK153.out⟩, ⟨by (with_reducible repeat (first | refine blk_drewN ?_ _ | refine blk_drew ?_ | refine blk_alloc ?_ _)); exact BK154.out⟩, ⟨by repeat (first | (with_reducible first | exact HB.out | apply below_alloc | apply pw_below_drewN | apply below_drew1 | refine below_set ?_ GE153.out | refine below_set ?_ GE154.out) | exact HB.out)⟩⟩
                              · rw [if_neg c73] at H
                                have c73b0 : decide (5 < t164) = false := decide_eq_false c73
                                clear c73
                                by_cases c76 : t158 < 0
                                · rw [if_pos c76] at H
                                  have c76b0 : decide (t158 < 0) = true := decide_eq_true c76
                                  clear c76
                                  have H' := Aside0.mk H
                                  clear H
                                  have hnb77 := NB153_154.out
                                  have hnc77 := NB154_153.out
                                  have hcz78_0 : wc.cell? ⟨gb153, 0, none⟩ = some (.int .i64 t158) := (blk_cell BK153.out 0).trans rfl
                                  have hcz78_1 : wc.cell? ⟨gb153, 1, none⟩ = some (.int .u64 t159) := (blk_cell BK153.out 1).trans rfl
                                  have hcz78_2 : wc.cell? ⟨gb153, 2, none⟩ = some (.int .u64 t160) := (blk_cell BK153.out 2).trans rfl
                                  have hcz78_3 : wc.cell? ⟨gb153, 3, none⟩ = some (.int .u64 t161) := (blk_cell BK153.out 3).trans rfl
                                  have hcz78_4 : wc.cell? ⟨gb153, 4, none⟩ = some (.int .u64 t162) := (blk_cell BK153.out 4).trans rfl
                                  have hcz78_5 : wc.cell? ⟨gb153, 5, none⟩ = some (.int .u64 t163) := (blk_cell BK153.out 5).trans rfl
                                  have hcz78_6 : wc.cell? ⟨gb153, 6, none⟩ = some (.int .u64 t164) := (blk_cell BK153.out 6).trans rfl
                                  have hfz78_0 := blk_frozen BK153.out 0
                                  have hfz78_1 := blk_frozen BK153.out 1
                                  have hfz78_2 := blk_frozen BK153.out 2
                                  have hfz78_3 := blk_frozen BK153.out 3
                                  have hfz78_4 := blk_frozen BK153.out 4
                                  have hfz78_5 := blk_frozen BK153.out 5
                                  have hfz78_6 := blk_frozen BK153.out 6
                                  go_wp2
                                  go_meet
                                  case rel => exact ⟨_, (true), (by first | rfl | (simp; done) | (simp [*]; done)), H', ⟨by have := HK1.out; have := HJ8.out; have := HJ48.out; first | omega | exact Nat.le_refl _⟩, ⟨by (with_reducible repeat (first | refine blk_drewN ?_ _ | refine blk_drew ?_ | refine blk_alloc ?_ _)); exact BK153.out⟩, ⟨by (with_reducible repeat (first | refine blk_drewN ?_ _ | refine blk_drew ?_ | refine blk_alloc ?_ _)); exact BK154.out⟩, ⟨by repeat (first | (with_reducible first | exact HB.out | apply below_alloc | apply pw_below_drewN | apply below_drew1 | refine below_set ?_ GE153.out | refine below_set ?_ GE154.out) | exact HB.out)⟩⟩
                                · rw [if_neg c76] at H
                                  have c76b0 : decide (t158 < 0) = false := decide_eq_false c76
                                  clear c76
                                  have H' := Aside0.mk H
                                  clear H
                                  have hnb79 := NB153_154.out
                                  have hnc79 := NB154_153.out
                                  have hcz80_0 : wc.cell? ⟨gb153, 0, none⟩ = some (.int .i64 t158) := (blk_cell BK153.out 0).trans rfl
                                  have hcz80_1 : wc.cell? ⟨gb153, 1, none⟩ = some (.int .u64 t159) := (blk_cell BK153.out 1).trans rfl
                                  have hcz80_2 : wc.cell? ⟨gb153, 2, none⟩ = some (.int .u64 t160) := (blk_cell BK153.out 2).trans rfl
                                  have hcz80_3 : wc.cell? ⟨gb153, 3, none⟩ = some (.int .u64 t161) := (blk_cell BK153.out 3).trans rfl
                                  have hcz80_4 : wc.cell? ⟨gb153, 4, none⟩ = some (.int .u64 t162) := (blk_cell BK153.out 4).trans rfl
                                  have hcz80_5 : wc.cell? ⟨gb153, 5, none⟩ = some (.int .u64 t163) := (blk_cell BK153.out 5).trans rfl
                                  have hcz80_6 : wc.cell? ⟨gb153, 6, none⟩ = some (.int .u64 t164) := (blk_cell BK153.out 6).trans rfl
                                  have hfz80_0 := blk_frozen BK153.out 0
                                  have hfz80_1 := blk_frozen BK153.out 1
                                  have hfz80_2 := blk_frozen BK153.out 2
                                  have hfz80_3 := blk_frozen BK153.out 3
                                  have hfz80_4 := blk_frozen BK153.out 4
                                  have hfz80_5 := blk_frozen BK153.out 5
                                  have hfz80_6 := blk_frozen BK153.out 6
                                  go_wp2
                                  go_meet
                                  case rel => exact ⟨_, (decide (t158 > 2)), (by first | rfl | (simp; done) | (simp [*]; done)), H', ⟨by have := HK1.out; have := HJ8.out; have := HJ48.out; first | omega | exact Nat.le_refl _⟩, ⟨by (with_reducible repeat (first | refine blk_drewN ?_ _ | refine blk_drew ?_ | refine blk_alloc ?_ _)); exact BK153.out⟩, ⟨by (with_reducible repeat (first | refine blk_drewN ?_ _ | refine blk_drew ?_ | refine blk_alloc ?_ _)); exact BK154.out⟩, ⟨by repeat (first | (with_reducible first | exact HB.out | apply below_alloc | apply pw_below_drewN | apply below_drew1 | refine below_set ?_ GE153.out | refine below_set ?_ GE154.out) | exact HB.out)⟩⟩
                            · rw [if_neg c72] at H
                              have c72b0 : (t158 == 2) = false := beq_eq_false_iff_ne.mpr c72
                              have c72b1 : (t158 != 2) = true := bne_iff_ne.mpr c72
                              (first | rw [c72b0] | (simp only [i64_w, i32_w]; rw [c72b0]) | skip)
                              by_cases c81 : t161 = (ji70)
                              · rw [if_pos c81] at H
                                have c81b0 : (t161 == (ji70)) = true := beq_iff_eq.mpr c81
                                have c81b1 : (t161 != (ji70)) = false := bne_eq_false_iff_eq.mpr c81
                                clear c81
                                by_cases c82 : t164 > 5
                                · rw [if_pos c82] at H
                                  have c82b0 : decide (5 < t164) = true := decide_eq_true c82
                                  clear c82
                                  have H' := Aside0.mk H
                                  clear H
                                  have hnb83 := NB153_154.out
                                  have hnc83 := NB154_153.out
                                  have hcz84_0 : wc.cell? ⟨gb153, 0, none⟩ = some (.int .i64 t158) := (blk_cell BK153.out 0).trans rfl
                                  have hcz84_1 : wc.cell? ⟨gb153, 1, none⟩ = some (.int .u64 t159) := (blk_cell BK153.out 1).trans rfl
                                  have hcz84_2 : wc.cell? ⟨gb153, 2, none⟩ = some (.int .u64 t160) := (blk_cell BK153.out 2).trans rfl
                                  have hcz84_3 : wc.cell? ⟨gb153, 3, none⟩ = some (.int .u64 t161) := (blk_cell BK153.out 3).trans rfl
                                  have hcz84_4 : wc.cell? ⟨gb153, 4, none⟩ = some (.int .u64 t162) := (blk_cell BK153.out 4).trans rfl
                                  have hcz84_5 : wc.cell? ⟨gb153, 5, none⟩ = some (.int .u64 t163) := (blk_cell BK153.out 5).trans rfl
                                  have hcz84_6 : wc.cell? ⟨gb153, 6, none⟩ = some (.int .u64 t164) := (blk_cell BK153.out 6).trans rfl
                                  have hfz84_0 := blk_frozen BK153.out 0
                                  have hfz84_1 := blk_frozen BK153.out 1
                                  have hfz84_2 := blk_frozen BK153.out 2
                                  have hfz84_3 := blk_frozen BK153.out 3
                                  have hfz84_4 := blk_frozen BK153.out 4
                                  have hfz84_5 := blk_frozen BK153.out 5
                                  have hfz84_6 := blk_frozen BK153.out 6
                                  go_wp2
                                  go_meet
                                  case rel => exact ⟨_, (true), (by first | rfl | (simp; done) | (simp [*]; done)), H', ⟨by have := HK1.out; have := HJ8.out; have := HJ48.out; first | omega | exact Nat.le_refl _⟩, ⟨by (with_reducible repeat (first | refine blk_drewN ?_ _ | refine blk_drew ?_ | refine blk_alloc ?_ _)); exact BK153.out⟩, ⟨by (with_reducible repeat (first | refine blk_drewN ?_ _ | refine blk_drew ?_ | refine blk_alloc ?_ _)); exact BK154.out⟩, ⟨by repeat (first | (with_reducible first | exact HB.out | apply below_alloc | apply pw_below_drewN | apply below_drew1 | refine below_set ?_ GE153.out | refine below_set ?_ GE154.out) | exact HB.out)⟩⟩
                                · rw [if_neg c82] at H
                                  have c82b0 : decide (5 < t164) = false := decide_eq_false c82
                                  clear c82
                                  by_cases c85 : t158 < 0
                                  · rw [if_pos c85] at H
                                    have c85b0 : decide (t158 < 0) = true := decide_eq_true c85
                                    clear c85
                                    have H' := Aside0.mk H
                                    clear H
                                    have hnb86 := NB153_154.out
                                    have hnc86 := NB154_153.out
                                    have hcz87_0 : wc.cell? ⟨gb153, 0, none⟩ = some (.int .i64 t158) := (blk_cell BK153.out 0).trans rfl
                                    have hcz87_1 : wc.cell? ⟨gb153, 1, none⟩ = some (.int .u64 t159) := (blk_cell BK153.out 1).trans rfl
                                    have hcz87_2 : wc.cell? ⟨gb153, 2, none⟩ = some (.int .u64 t160) := (blk_cell BK153.out 2).trans rfl
                                    have hcz87_3 : wc.cell? ⟨gb153, 3, none⟩ = some (.int .u64 t161) := (blk_cell BK153.out 3).trans rfl
                                    have hcz87_4 : wc.cell? ⟨gb153, 4, none⟩ = some (.int .u64 t162) := (blk_cell BK153.out 4).trans rfl
                                    have hcz87_5 : wc.cell? ⟨gb153, 5, none⟩ = some (.int .u64 t163) := (blk_cell BK153.out 5).trans rfl
                                    have hcz87_6 : wc.cell? ⟨gb153, 6, none⟩ = some (.int .u64 t164) := (blk_cell BK153.out 6).trans rfl
                                    have hfz87_0 := blk_frozen BK153.out 0
                                    have hfz87_1 := blk_frozen BK153.out 1
                                    have hfz87_2 := blk_frozen BK153.out 2
                                    have hfz87_3 := blk_frozen BK153.out 3
                                    have hfz87_4 := blk_frozen BK153.out 4
                                    have hfz87_5 := blk_frozen BK153.out 5
                                    have hfz87_6 := blk_frozen BK153.out 6
                                    go_wp2
                                    go_meet
                                    case rel => exact ⟨_, (true), (by first | rfl | (simp; done) | (simp [*]; done)), H', ⟨by have := HK1.out; have := HJ8.out; have := HJ48.out; first | omega | exact Nat.le_refl _⟩, ⟨by (with_reducible repeat (first | refine blk_drewN ?_ _ | refine blk_drew ?_ | refine blk_alloc ?_ _)); exact BK153.out⟩, ⟨by (with_reducible repeat (first | refine blk_drewN ?_ _ | refine blk_drew ?_ | refine blk_alloc ?_ _)); exact BK154.out⟩, ⟨by repeat (first | (with_reducible first | exact HB.out | apply below_alloc | apply pw_below_drewN | apply below_drew1 | refine below_set ?_ GE153.out | refine below_set ?_ GE154.out) | exact HB.out)⟩⟩
                                  · rw [if_neg c85] at H
                                    have c85b0 : decide (t158 < 0) = false := decide_eq_false c85
                                    clear c85
                                    have H' := Aside0.mk H
                                    clear H
                                    have hnb88 := NB153_154.out
                                    have hnc88 := NB154_153.out
                                    have hcz89_0 : wc.cell? ⟨gb153, 0, none⟩ = some (.int .i64 t158) := (blk_cell BK153.out 0).trans rfl
                                    have hcz89_1 : wc.cell? ⟨gb153, 1, none⟩ = some (.int .u64 t159) := (blk_cell BK153.out 1).trans rfl
                                    have hcz89_2 : wc.cell? ⟨gb153, 2, none⟩ = some (.int .u64 t160) := (blk_cell BK153.out 2).trans rfl
                                    have hcz89_3 : wc.cell? ⟨gb153, 3, none⟩ = some (.int .u64 t161) := (blk_cell BK153.out 3).trans rfl
                                    have hcz89_4 : wc.cell? ⟨gb153, 4, none⟩ = some (.int .u64 t162) := (blk_cell BK153.out 4).trans rfl
                                    have hcz89_5 : wc.cell? ⟨gb153, 5, none⟩ = some (.int .u64 t163) := (blk_cell BK153.out 5).trans rfl
                                    have hcz89_6 : wc.cell? ⟨gb153, 6, none⟩ = some (.int .u64 t164) := (blk_cell BK153.out 6).trans rfl
                                    have hfz89_0 := blk_frozen BK153.out 0
                                    have hfz89_1 := blk_frozen BK153.out 1
                                    have hfz89_2 := blk_frozen BK153.out 2
                                    have hfz89_3 := blk_frozen BK153.out 3
                                    have hfz89_4 := blk_frozen BK153.out 4
                                    have hfz89_5 := blk_frozen BK153.out 5
                                    have hfz89_6 := blk_frozen BK153.out 6
                                    go_wp2
                                    go_meet
                                    case rel => exact ⟨_, (decide (t158 > 2)), (by first | rfl | (simp; done) | (simp [*]; done)), H', ⟨by have := HK1.out; have := HJ8.out; have := HJ48.out; first | omega | exact Nat.le_refl _⟩, ⟨by (with_reducible repeat (first | refine blk_drewN ?_ _ | refine blk_drew ?_ | refine blk_alloc ?_ _)); exact BK153.out⟩, ⟨by (with_reducible repeat (first | refine blk_drewN ?_ _ | refine blk_drew ?_ | refine blk_alloc ?_ _)); exact BK154.out⟩, ⟨by repeat (first | (with_reducible first | exact HB.out | apply below_alloc | apply pw_below_drewN | apply below_drew1 | refine below_set ?_ GE153.out | refine below_set ?_ GE154.out) | exact HB.out)⟩⟩
                              · rw [if_neg c81] at H
                                have c81b0 : (t161 == (ji70)) = false := beq_eq_false_iff_ne.mpr c81
                                have c81b1 : (t161 != (ji70)) = true := bne_iff_ne.mpr c81
                                have H' := Aside0.mk H
                                clear H
                                have hnb90 := NB153_154.out
                                have hnc90 := NB154_153.out
                                have hcz91_0 : wc.cell? ⟨gb153, 0, none⟩ = some (.int .i64 t158) := (blk_cell BK153.out 0).trans rfl
                                have hcz91_1 : wc.cell? ⟨gb153, 1, none⟩ = some (.int .u64 t159) := (blk_cell BK153.out 1).trans rfl
                                have hcz91_2 : wc.cell? ⟨gb153, 2, none⟩ = some (.int .u64 t160) := (blk_cell BK153.out 2).trans rfl
                                have hcz91_3 : wc.cell? ⟨gb153, 3, none⟩ = some (.int .u64 t161) := (blk_cell BK153.out 3).trans rfl
                                have hcz91_4 : wc.cell? ⟨gb153, 4, none⟩ = some (.int .u64 t162) := (blk_cell BK153.out 4).trans rfl
                                have hcz91_5 : wc.cell? ⟨gb153, 5, none⟩ = some (.int .u64 t163) := (blk_cell BK153.out 5).trans rfl
                                have hcz91_6 : wc.cell? ⟨gb153, 6, none⟩ = some (.int .u64 t164) := (blk_cell BK153.out 6).trans rfl
                                have hfz91_0 := blk_frozen BK153.out 0
                                have hfz91_1 := blk_frozen BK153.out 1
                                have hfz91_2 := blk_frozen BK153.out 2
                                have hfz91_3 := blk_frozen BK153.out 3
                                have hfz91_4 := blk_frozen BK153.out 4
                                have hfz91_5 := blk_frozen BK153.out 5
                                have hfz91_6 := blk_frozen BK153.out 6
                                go_wp2
                                go_meet
                                case rel => exact ⟨_, (true), (by first | rfl | (simp; done) | (simp [*]; done)), H', ⟨by have := HK1.out; have := HJ8.out; have := HJ48.out; first | omega | exact Nat.le_refl _⟩, ⟨by (with_reducible repeat (first | refine blk_drewN ?_ _ | refine blk_drew ?_ | refine blk_alloc ?_ _)); exact BK153.out⟩, ⟨by (with_reducible repeat (first | refine blk_drewN ?_ _ | refine blk_drew ?_ | refine blk_alloc ?_ _)); exact BK154.out⟩, ⟨by repeat (first | (with_reducible first | exact HB.out | apply below_alloc | apply pw_below_drewN | apply below_drew1 | refine below_set ?_ GE153.out | refine below_set ?_ GE154.out) | exact HB.out)⟩⟩
                          case rest =>
                            clear HC71
                            try clear c1
                            try clear p1
                            try clear q1
                            try clear hx1
                            try clear p2
                            try clear c5
                            try clear c6
                            try clear p6
                            try clear c7
                            try clear c8
                            try clear c9
                            try clear c10
                            try clear c15
                            try clear c15b0
                            try clear c15b1
                            try clear p15
                            try clear q15
                            try clear hx15
                            try clear p16
                            try clear q16
                            try clear hx16
                            try clear c52
                            try clear p64
                            try clear c67
                            try clear c67b0
                            try clear c68
                            try clear c68b0
                            try clear c69
                            try clear c69b0
                            try clear c72
                            try clear c72b0
                            try clear c72b1
                            try clear c73
                            try clear c73b0
                            try clear c74
                            try clear c76
                            try clear c76b0
                            try clear c77
                            try clear c79
                            try clear c81
                            try clear c81b0
                            try clear c81b1
                            try clear c82
                            try clear c82b0
                            try clear c83
                            try clear c85
                            try clear c85b0
                            try clear c86
                            try clear c88
                            try clear c90
                            try clear hcz47_0
                            try clear hcz47_1
                            try clear hcz47_2
                            try clear hcz47_3
                            try clear hcz47_4
                            try clear hcz47_5
                            try clear hcz47_6
                            try clear hcz48_0
                            try clear hcz48_1
                            try clear hcz48_2
                            try clear hcz48_3
                            try clear hcz48_4
                            try clear hcz48_5
                            try clear hcz48_6
                            try clear hcz50_0
                            try clear hcz50_1
                            try clear hcz50_2
                            try clear hcz50_3
                            try clear hcz50_4
                            try clear hcz50_5
                            try clear hcz50_6
                            try clear hcz53_0
                            try clear hcz53_1
                            try clear hcz53_2
                            try clear hcz53_3
                            try clear hcz53_4
                            try clear hcz53_5
                            try clear hcz53_6
                            try clear hcz64_0
                            try clear hcz64_1
                            try clear hcz64_2
                            try clear hcz64_3
                            try clear hcz64_4
                            try clear hcz64_5
                            try clear hcz64_6
                            try clear hcz75_0
                            try clear hcz75_1
                            try clear hcz75_2
                            try clear hcz75_3
                            try clear hcz75_4
                            try clear hcz75_5
                            try clear hcz75_6
                            try clear hcz78_0
                            try clear hcz78_1
                            try clear hcz78_2
                            try clear hcz78_3
                            try clear hcz78_4
                            try clear hcz78_5
                            try clear hcz78_6
                            try clear hcz80_0
                            try clear hcz80_1
                            try clear hcz80_2
                            try clear hcz80_3
                            try clear hcz80_4
                            try clear hcz80_5
                            try clear hcz80_6
                            try clear hcz84_0
                            try clear hcz84_1
                            try clear hcz84_2
                            try clear hcz84_3
                            try clear hcz84_4
                            try clear hcz84_5
                            try clear hcz84_6
                            try clear hcz87_0
                            try clear hcz87_1
                            try clear hcz87_2
                            try clear hcz87_3
                            try clear hcz87_4
                            try clear hcz87_5
                            try clear hcz87_6
                            try clear hcz89_0
                            try clear hcz89_1
                            try clear hcz89_2
                            try clear hcz89_3
                            try clear hcz89_4
                            try clear hcz89_5
                            try clear hcz89_6
                            try clear hcz91_0
                            try clear hcz91_1
                            try clear hcz91_2
                            try clear hcz91_3
                            try clear hcz91_4
                            try clear hcz91_5
                            try clear hcz91_6
                            try clear hfz47_0
                            try clear hfz47_1
                            try clear hfz47_2
                            try clear hfz47_3
                            try clear hfz47_4
                            try clear hfz47_5
                            try clear hfz47_6
                            try clear hfz48_0
                            try clear hfz48_1
                            try clear hfz48_2
                            try clear hfz48_3
                            try clear hfz48_4
                            try clear hfz48_5
                            try clear hfz48_6
                            try clear hfz50_0
                            try clear hfz50_1
                            try clear hfz50_2
                            try clear hfz50_3
                            try clear hfz50_4
                            try clear hfz50_5
                            try clear hfz50_6
                            try clear hfz53_0
                            try clear hfz53_1
                            try clear hfz53_2
                            try clear hfz53_3
                            try clear hfz53_4
                            try clear hfz53_5
                            try clear hfz53_6
                            try clear hfz64_0
                            try clear hfz64_1
                            try clear hfz64_2
                            try clear hfz64_3
                            try clear hfz64_4
                            try clear hfz64_5
                            try clear hfz64_6
                            try clear hfz75_0
                            try clear hfz75_1
                            try clear hfz75_2
                            try clear hfz75_3
                            try clear hfz75_4
                            try clear hfz75_5
                            try clear hfz75_6
                            try clear hfz78_0
                            try clear hfz78_1
                            try clear hfz78_2
                            try clear hfz78_3
                            try clear hfz78_4
                            try clear hfz78_5
                            try clear hfz78_6
                            try clear hfz80_0
                            try clear hfz80_1
                            try clear hfz80_2
                            try clear hfz80_3
                            try clear hfz80_4
                            try clear hfz80_5
                            try clear hfz80_6
                            try clear hfz84_0
                            try clear hfz84_1
                            try clear hfz84_2
                            try clear hfz84_3
                            try clear hfz84_4
                            try clear hfz84_5
                            try clear hfz84_6
                            try clear hfz87_0
                            try clear hfz87_1
                            try clear hfz87_2
                            try clear hfz87_3
                            try clear hfz87_4
                            try clear hfz87_5
                            try clear hfz87_6
                            try clear hfz89_0
                            try clear hfz89_1
                            try clear hfz89_2
                            try clear hfz89_3
                            try clear hfz89_4
                            try clear hfz89_5
                            try clear hfz89_6
                            try clear hfz91_0
                            try clear hfz91_1
                            try clear hfz91_2
                            try clear hfz91_3
                            try clear hfz91_4
                            try clear hfz91_5
                            try clear hfz91_6
                            try clear hx155_0
                            try clear hx155_1
                            try clear hx155_2
                            try clear hx156_0
                            try clear hx156_1
                            try clear hx156_2
                            try clear hx157_0
                            try clear hx157_1
                            try clear hx157_2
                            try clear hx165_0
                            try clear hx165_1
                            try clear hx165_2
                            try clear hx166_0
                            try clear hx166_1
                            try clear hx166_2
                            try clear p1
                            try clear p15
                            try clear p155
                            try clear p156
                            try clear p157
                            try clear p16
                            try clear p165
                            try clear p166
                            try clear p2
                            try clear p6
                            try clear p64
                            try clear q1
                            try clear q15
                            try clear q155
                            try clear q156
                            try clear q157
                            try clear q16
                            try clear q165
                            try clear q166
                            obtain ⟨kq, x85_70, rfl, HA, HJ70, BK153, BK154, HB⟩ := hcut
                            cases kq with
                            | zero => exact absurd HA.out (by simp [wigwaglaw11_HystartEnds.j3])
                            | succ kj70 =>
                              have H := HA.out
                              clear HA
                              simp only [wigwaglaw11_HystartEnds.j3] at H
                              by_cases c92 : x85_70 = true
                              · subst c92
                                have H1 : (some false) = some r := by rw [if_pos rfl] at H; exact H
                                clear H
                                have H := H1
                                clear H1
                                obtain rfl := Option.some.inj H
                                go_wp2
                                go_ret
                                exact ⟨by first | rfl | (simp [errW_none, errW_some] <;> rfl) | (simp only [← hji70]; first | rfl | (simp [errW_none, errW_some] <;> rfl)) | (simp [*, errW_none, errW_some] <;> rfl), by repeat (first | (with_reducible first | exact HB.out | apply below_alloc | apply pw_below_drewN | apply below_drew1 | refine below_set ?_ GE153.out | refine below_set ?_ GE154.out) | exact HB.out)⟩
                              · replace c92 := Bool.eq_false_iff.mpr c92
                                subst c92
                                have H1 : (if t158 = 2 then (if x154006_1 = 4 then (wigwaglaw11_HystartEnds.l0 kj70 l1 t145 ji70 (wrap64 (x8_1 + 1)) t158 t159 t160 t161 t162 t163 t164) else (some false)) else (wigwaglaw11_HystartEnds.l0 kj70 l1 t145 ji70 (wrap64 (x8_1 + 1)) t158 t159 t160 t161 t162 t163 t164)) = some r := by rw [if_neg (show ¬ (false = true) by decide)] at H; exact H
                                clear H
                                have H := H1
                                clear H1
                                by_cases c93 : t158 = 2
                                · rw [if_pos c93] at H
                                  have c93b0 : (t158 == 2) = true := beq_iff_eq.mpr c93
                                  have c93b1 : (t158 != 2) = false := bne_eq_false_iff_eq.mpr c93
                                  clear c93
                                  by_cases c94 : x154006_1 = 4
                                  · rw [if_pos c94] at H
                                    have c94b0 : (x154006_1 == 4) = true := beq_iff_eq.mpr c94
                                    have c94b1 : (x154006_1 != 4) = false := bne_eq_false_iff_eq.mpr c94
                                    clear c94
                                    have H' := Aside0.mk H
                                    clear H
                                    have hnb95 := NB153_154.out
                                    have hnc95 := NB154_153.out
                                    have hcz96_0 : wc.cell? ⟨gb153, 0, none⟩ = some (.int .i64 t158) := (blk_cell BK153.out 0).trans rfl
                                    have hcz96_1 : wc.cell? ⟨gb153, 1, none⟩ = some (.int .u64 t159) := (blk_cell BK153.out 1).trans rfl
                                    have hcz96_2 : wc.cell? ⟨gb153, 2, none⟩ = some (.int .u64 t160) := (blk_cell BK153.out 2).trans rfl
                                    have hcz96_3 : wc.cell? ⟨gb153, 3, none⟩ = some (.int .u64 t161) := (blk_cell BK153.out 3).trans rfl
                                    have hcz96_4 : wc.cell? ⟨gb153, 4, none⟩ = some (.int .u64 t162) := (blk_cell BK153.out 4).trans rfl
                                    have hcz96_5 : wc.cell? ⟨gb153, 5, none⟩ = some (.int .u64 t163) := (blk_cell BK153.out 5).trans rfl
                                    have hcz96_6 : wc.cell? ⟨gb153, 6, none⟩ = some (.int .u64 t164) := (blk_cell BK153.out 6).trans rfl
                                    have hfz96_0 := blk_frozen BK153.out 0
                                    have hfz96_1 := blk_frozen BK153.out 1
                                    have hfz96_2 := blk_frozen BK153.out 2
                                    have hfz96_3 := blk_frozen BK153.out 3
                                    have hfz96_4 := blk_frozen BK153.out 4
                                    have hfz96_5 := blk_frozen BK153.out 5
                                    have hfz96_6 := blk_frozen BK153.out 6
                                    have hcz97_0 : wc.cell? ⟨gb154, 0, none⟩ = some (.int .i64 x154000_1) := (blk_cell BK154.out 0).trans rfl
                                    have hcz97_1 : wc.cell? ⟨gb154, 1, none⟩ = some (.int .u64 x154001_1) := (blk_cell BK154.out 1).trans rfl
                                    have hcz97_2 : wc.cell? ⟨gb154, 2, none⟩ = some (.int .u64 x154002_1) := (blk_cell BK154.out 2).trans rfl
                                    have hcz97_3 : wc.cell? ⟨gb154, 3, none⟩ = some (.int .u64 x154003_1) := (blk_cell BK154.out 3).trans rfl
                                    have hcz97_4 : wc.cell? ⟨gb154, 4, none⟩ = some (.int .u64 x154004_1) := (blk_cell BK154.out 4).trans rfl
                                    have hcz97_5 : wc.cell? ⟨gb154, 5, none⟩ = some (.int .u64 x154005_1) := (blk_cell BK154.out 5).trans rfl
                                    have hcz97_6 : wc.cell? ⟨gb154, 6, none⟩ = some (.int .u64 x154006_1) := (blk_cell BK154.out 6).trans rfl
                                    have hfz97_0 := blk_frozen BK154.out 0
                                    have hfz97_1 := blk_frozen BK154.out 1
                                    have hfz97_2 := blk_frozen BK154.out 2
                                    have hfz97_3 := blk_frozen BK154.out 3
                                    have hfz97_4 := blk_frozen BK154.out 4
                                    have hfz97_5 := blk_frozen BK154.out 5
                                    have hfz97_6 := blk_frozen BK154.out 6
                                    go_wp2
                                    go_roundg kj70
                                    case measure => have := HK1.out; have := HJ8.out; have := HJ48.out; have := HJ70.out; omega
                                    case rel => exact ⟨(ji70), (wrap64 (x8_1 + 1)), (t158), (t159), (t160), (t161), (t162), (t163), (t164), (by first | rfl | (simp; done) | (simp only [← hji70] <;> (first | rfl | simp)) | (simp [*]; done)), (by first | rfl | (simp; done) | (simp [*]; done)), H', ⟨by have := HK1.out; have := HJ8.out; have := HJ48.out; have := HJ70.out; omega⟩, ⟨by (with_reducible repeat (first | refine blk_drewN ?_ _ | refine blk_drew ?_ | refine blk_alloc ?_ _)); exact BK153.out⟩, ⟨by repeat (first | (with_reducible first | exact HB.out | apply below_alloc | apply pw_below_drewN | apply below_drew1 | refine below_set ?_ GE153.out | refine below_set ?_ GE154.out) | exact HB.out)⟩⟩
                                  · rw [if_neg c94] at H
                                    have c94b0 : (x154006_1 == 4) = false := beq_eq_false_iff_ne.mpr c94
                                    have c94b1 : (x154006_1 != 4) = true := bne_iff_ne.mpr c94
                                    obtain rfl := Option.some.inj H
                                    have hnb98 := NB153_154.out
                                    have hnc98 := NB154_153.out
                                    have hcz99_0 : wc.cell? ⟨gb153, 0, none⟩ = some (.int .i64 t158) := (blk_cell BK153.out 0).trans rfl
                                    have hcz99_1 : wc.cell? ⟨gb153, 1, none⟩ = some (.int .u64 t159) := (blk_cell BK153.out 1).trans rfl
                                    have hcz99_2 : wc.cell? ⟨gb153, 2, none⟩ = some (.int .u64 t160) := (blk_cell BK153.out 2).trans rfl
                                    have hcz99_3 : wc.cell? ⟨gb153, 3, none⟩ = some (.int .u64 t161) := (blk_cell BK153.out 3).trans rfl
                                    have hcz99_4 : wc.cell? ⟨gb153, 4, none⟩ = some (.int .u64 t162) := (blk_cell BK153.out 4).trans rfl
                                    have hcz99_5 : wc.cell? ⟨gb153, 5, none⟩ = some (.int .u64 t163) := (blk_cell BK153.out 5).trans rfl
                                    have hcz99_6 : wc.cell? ⟨gb153, 6, none⟩ = some (.int .u64 t164) := (blk_cell BK153.out 6).trans rfl
                                    have hfz99_0 := blk_frozen BK153.out 0
                                    have hfz99_1 := blk_frozen BK153.out 1
                                    have hfz99_2 := blk_frozen BK153.out 2
                                    have hfz99_3 := blk_frozen BK153.out 3
                                    have hfz99_4 := blk_frozen BK153.out 4
                                    have hfz99_5 := blk_frozen BK153.out 5
                                    have hfz99_6 := blk_frozen BK153.out 6
                                    have hcz100_0 : wc.cell? ⟨gb154, 0, none⟩ = some (.int .i64 x154000_1) := (blk_cell BK154.out 0).trans rfl
                                    have hcz100_1 : wc.cell? ⟨gb154, 1, none⟩ = some (.int .u64 x154001_1) := (blk_cell BK154.out 1).trans rfl
                                    have hcz100_2 : wc.cell? ⟨gb154, 2, none⟩ = some (.int .u64 x154002_1) := (blk_cell BK154.out 2).trans rfl
                                    have hcz100_3 : wc.cell? ⟨gb154, 3, none⟩ = some (.int .u64 x154003_1) := (blk_cell BK154.out 3).trans rfl
                                    have hcz100_4 : wc.cell? ⟨gb154, 4, none⟩ = some (.int .u64 x154004_1) := (blk_cell BK154.out 4).trans rfl
                                    have hcz100_5 : wc.cell? ⟨gb154, 5, none⟩ = some (.int .u64 x154005_1) := (blk_cell BK154.out 5).trans rfl
                                    have hcz100_6 : wc.cell? ⟨gb154, 6, none⟩ = some (.int .u64 x154006_1) := (blk_cell BK154.out 6).trans rfl
                                    have hfz100_0 := blk_frozen BK154.out 0
                                    have hfz100_1 := blk_frozen BK154.out 1
                                    have hfz100_2 := blk_frozen BK154.out 2
                                    have hfz100_3 := blk_frozen BK154.out 3
                                    have hfz100_4 := blk_frozen BK154.out 4
                                    have hfz100_5 := blk_frozen BK154.out 5
                                    have hfz100_6 := blk_frozen BK154.out 6
                                    go_wp2
                                    go_ret
                                    exact ⟨by first | rfl | (simp [errW_none, errW_some] <;> rfl) | (simp only [← hji70]; first | rfl | (simp [errW_none, errW_some] <;> rfl)) | (simp [*, errW_none, errW_some] <;> rfl), by repeat (first | (with_reducible first | exact HB.out | apply below_alloc | apply pw_below_drewN | apply below_drew1 | refine below_set ?_ GE153.out | refine below_set ?_ GE154.out) | exact HB.out)⟩
                                · rw [if_neg c93] at H
                                  have c93b0 : (t158 == 2) = false := beq_eq_false_iff_ne.mpr c93
                                  have c93b1 : (t158 != 2) = true := bne_iff_ne.mpr c93
                                  have H' := Aside0.mk H
                                  clear H
                                  have hnb101 := NB153_154.out
                                  have hnc101 := NB154_153.out
                                  have hcz102_0 : wc.cell? ⟨gb153, 0, none⟩ = some (.int .i64 t158) := (blk_cell BK153.out 0).trans rfl
                                  have hcz102_1 : wc.cell? ⟨gb153, 1, none⟩ = some (.int .u64 t159) := (blk_cell BK153.out 1).trans rfl
                                  have hcz102_2 : wc.cell? ⟨gb153, 2, none⟩ = some (.int .u64 t160) := (blk_cell BK153.out 2).trans rfl
                                  have hcz102_3 : wc.cell? ⟨gb153, 3, none⟩ = some (.int .u64 t161) := (blk_cell BK153.out 3).trans rfl
                                  have hcz102_4 : wc.cell? ⟨gb153, 4, none⟩ = some (.int .u64 t162) := (blk_cell BK153.out 4).trans rfl
                                  have hcz102_5 : wc.cell? ⟨gb153, 5, none⟩ = some (.int .u64 t163) := (blk_cell BK153.out 5).trans rfl
                                  have hcz102_6 : wc.cell? ⟨gb153, 6, none⟩ = some (.int .u64 t164) := (blk_cell BK153.out 6).trans rfl
                                  have hfz102_0 := blk_frozen BK153.out 0
                                  have hfz102_1 := blk_frozen BK153.out 1
                                  have hfz102_2 := blk_frozen BK153.out 2
                                  have hfz102_3 := blk_frozen BK153.out 3
                                  have hfz102_4 := blk_frozen BK153.out 4
                                  have hfz102_5 := blk_frozen BK153.out 5
                                  have hfz102_6 := blk_frozen BK153.out 6
                                  go_wp2
                                  go_roundg kj70
                                  case measure => have := HK1.out; have := HJ8.out; have := HJ48.out; have := HJ70.out; omega
                                  case rel => exact ⟨(ji70), (wrap64 (x8_1 + 1)), (t158), (t159), (t160), (t161), (t162), (t163), (t164), (by first | rfl | (simp; done) | (simp only [← hji70] <;> (first | rfl | simp)) | (simp [*]; done)), (by first | rfl | (simp; done) | (simp [*]; done)), H', ⟨by have := HK1.out; have := HJ8.out; have := HJ48.out; have := HJ70.out; omega⟩, ⟨by (with_reducible repeat (first | refine blk_drewN ?_ _ | refine blk_drew ?_ | refine blk_alloc ?_ _)); exact BK153.out⟩, ⟨by repeat (first | (with_reducible first | exact HB.out | apply below_alloc | apply pw_below_drewN | apply below_drew1 | refine below_set ?_ GE153.out | refine below_set ?_ GE154.out) | exact HB.out)⟩⟩
                        · rw [if_neg c69] at H
                          exact absurd H (by simp)
                      · rw [if_neg c68] at H
                        exact absurd H (by simp)
              · rw [if_neg c13] at H
                exact absurd H (by simp)
            · rw [if_neg c12] at H
              exact absurd H (by simp)
          · replace c11 := Bool.eq_false_iff.mpr c11
            subst c11
            have H1 : (some t145) = some r := by rw [if_neg (show ¬ (false = true) by decide)] at H; exact H
            clear H
            have H := H1
            clear H1
            obtain rfl := Option.some.inj H
            go_wp2
            go_ret
            exact ⟨by first | rfl | (simp [errW_none, errW_some] <;> rfl) | (simp [*, errW_none, errW_some] <;> rfl), by repeat (first | (with_reducible first | exact HB.out | apply below_alloc | apply pw_below_drewN | apply below_drew1 | refine below_set ?_ GE153.out) | exact HB.out)⟩

end Go.Proofs.Ythclohjlbajclaa.P
