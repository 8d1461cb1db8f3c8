-- Printed for this claim by xprint.py of this session: contracts of this session's own stand in for what the print does not take
import Derived.Test.YtndfddejdfnleaaPx0
import Derived.Test.YtndfddejdfnleaaPx15
namespace Go.Proofs.Ytndfddejdfnleaa.P
open Go.RowKit Go.Proofs.YtndfddejdfnleaaW.PrintWords Go.Proofs.YtndfddejdfnleaaW.PrintLast Go.Proofs.YtndfddejdfnleaaW.PrintMore
attribute [local go_sem] max2_int min2_int max_two min_two max_three min_three max_four min_four   -- for this text's walks alone
set_option linter.unusedVariables false
set_option linter.unusedSimpArgs false

/-! ### wigwagref17_Same: function 14 -/
mutual
def wigwagref17_Same.j0 : Nat → Bool → Int → List (S41) → List Int → Bool → Int → Int → List (S41) → List Int → Bool → Int → Option (Bool)
 | 0,_,_,_,_,_,_,_,_,_,_,_ => none
 | k + 1,x36,x282000,x282001,x282002,x282003,x282004,x283000,x283001,x283002,x283003,x283004 => if x36 = true then (some false) else (wigwagref17_Same.l0 k 0 x282000 x282001 x282002 x282003 x282004 x283000 x283001 x283002 x283003 x283004)
def wigwagref17_Same.l0 : Nat → Int → Int → List (S41) → List Int → Bool → Int → Int → List (S41) → List Int → Bool → Int → Option (Bool)
 | 0,_,_,_,_,_,_,_,_,_,_,_ => none
 | k + 1,x6,x282000,x282001,x282002,x282003,x282004,x283000,x283001,x283002,x283003,x283004 => if x6 < (x282001.length : Int) then (if 0 ≤ x6 then (wigwagref17_Same.l1 k x6 ((rd_T41 x282001 x6).f0) x282000 x282001 x282002 x282003 x282004 x283000 x283001 x283002 x283003 x283004) else (none)) else (some true)
def wigwagref17_Same.l1 : Nat → Int → Int → Int → List (S41) → List Int → Bool → Int → Int → List (S41) → List Int → Bool → Int → Option (Bool)
 | 0,_,_,_,_,_,_,_,_,_,_,_,_ => none
 | k + 1,x6,x7,x282000,x282001,x282002,x282003,x282004,x283000,x283001,x283002,x283003,x283004 => if 0 ≤ x6 then (if x6 < (x282001.length : Int) then (if x7 < ((rd_T41 x282001 x6).f1) then (if (IntKind.u64.wrap (x7 - x282000)) ≥ (IntKind.u64.wrap ((x282002.length : Int))) then (wigwagref17_Same.j3 k x6 x7 true x282000 x282001 x282002 x282003 x282004 x283000 x283001 x283002 x283003 x283004) else (if (IntKind.u64.wrap (x7 - x282000)) ≥ (IntKind.u64.wrap ((x283002.length : Int))) then (wigwagref17_Same.j3 k x6 x7 true x282000 x282001 x282002 x282003 x282004 x283000 x283001 x283002 x283003 x283004) else (if 0 ≤ (IntKind.u64.wrap (x7 - x282000)) then (if (IntKind.u64.wrap (x7 - x282000)) < (x282002.length : Int) then (if (IntKind.u64.wrap (x7 - x282000)) < (x283002.length : Int) then (wigwagref17_Same.j3 k x6 x7 ((rd x282002 (IntKind.u64.wrap (x7 - x282000))) != (rd x283002 (IntKind.u64.wrap (x7 - x282000)))) x282000 x282001 x282002 x282003 x282004 x283000 x283001 x283002 x283003 x283004) else (none)) else (none)) else (none)))) else (wigwagref17_Same.l0 k (wrap64 (x6 + 1)) x282000 x282001 x282002 x282003 x282004 x283000 x283001 x283002 x283003 x283004)) else (none)) else (none)
def wigwagref17_Same.j3 : Nat → Int → Int → Bool → Int → List (S41) → List Int → Bool → Int → Int → List (S41) → List Int → Bool → Int → Option (Bool)
 | 0,_,_,_,_,_,_,_,_,_,_,_,_,_ => none
 | k + 1,x6,x7,x90,x282000,x282001,x282002,x282003,x282004,x283000,x283001,x283002,x283003,x283004 => if x90 = true then (some false) else (wigwagref17_Same.l1 k x6 (IntKind.u64.wrap (x7 + 1)) x282000 x282001 x282002 x282003 x282004 x283000 x283001 x283002 x283003 x283004)
end
def wigwagref17_Same.f (k : Nat) (a0_0 : Int) (l0_1 : List (S41)) (l0_2 : List Int) (a0_3 : Bool) (a0_4 : Int) (a1_0 : Int) (l1_1 : List (S41)) (l1_2 : List Int) (a1_3 : Bool) (a1_4 : Int) : Option (Bool):=(wigwagref07_Same.f k l0_1 l1_1).bind fun t283 => (if t283 = true then (if a0_0 = a1_0 then (if (a0_3 != a1_3) = true then (wigwagref17_Same.j0 k true a0_0 l0_1 l0_2 a0_3 a0_4 a1_0 l1_1 l1_2 a1_3 a1_4) else (wigwagref17_Same.j0 k (a0_4 != a1_4) a0_0 l0_1 l0_2 a0_3 a0_4 a1_0 l1_1 l1_2 a1_3 a1_4)) else (wigwagref17_Same.j0 k true a0_0 l0_1 l0_2 a0_3 a0_4 a1_0 l1_1 l1_2 a1_3 a1_4)) else (wigwagref17_Same.j0 k true a0_0 l0_1 l0_2 a0_3 a0_4 a1_0 l1_1 l1_2 a1_3 a1_4))
theorem wigwagref17_Same.mono_l : ∀ k,(∀ y0 y1 y2 y3 y4 y5 y6 y7 y8 y9 y10,LeO (wigwagref17_Same.j0 k y0 y1 y2 y3 y4 y5 y6 y7 y8 y9 y10) (wigwagref17_Same.j0 (k + 1) y0 y1 y2 y3 y4 y5 y6 y7 y8 y9 y10)) ∧ (∀ y0 y1 y2 y3 y4 y5 y6 y7 y8 y9 y10,LeO (wigwagref17_Same.l0 k y0 y1 y2 y3 y4 y5 y6 y7 y8 y9 y10) (wigwagref17_Same.l0 (k + 1) y0 y1 y2 y3 y4 y5 y6 y7 y8 y9 y10)) ∧ (∀ y0 y1 y2 y3 y4 y5 y6 y7 y8 y9 y10 y11,LeO (wigwagref17_Same.l1 k y0 y1 y2 y3 y4 y5 y6 y7 y8 y9 y10 y11) (wigwagref17_Same.l1 (k + 1) y0 y1 y2 y3 y4 y5 y6 y7 y8 y9 y10 y11)) ∧ (∀ y0 y1 y2 y3 y4 y5 y6 y7 y8 y9 y10 y11 y12,LeO (wigwagref17_Same.j3 k y0 y1 y2 y3 y4 y5 y6 y7 y8 y9 y10 y11 y12) (wigwagref17_Same.j3 (k + 1) y0 y1 y2 y3 y4 y5 y6 y7 y8 y9 y10 y11 y12))
 | 0 => ⟨fun _ _ _ _ _ _ _ _ _ _ _ r h => by simp [wigwagref17_Same.j0] at h,fun _ _ _ _ _ _ _ _ _ _ _ r h => by simp [wigwagref17_Same.l0] at h,fun _ _ _ _ _ _ _ _ _ _ _ _ r h => by simp [wigwagref17_Same.l1] at h,fun _ _ _ _ _ _ _ _ _ _ _ _ _ r h => by simp [wigwagref17_Same.j3] at h⟩
 | k + 1 => by
  obtain ⟨ih0,ih1,ih2,ih3⟩:=wigwagref17_Same.mono_l k
  refine ⟨?_,?_,?_,?_⟩
  ·intro y0 y1 y2 y3 y4 y5 y6 y7 y8 y9 y10
   unfold wigwagref17_Same.j0
   repeat' first
   | (with_reducible exact ih0 _ _ _ _ _ _ _ _ _ _ _)
   | (with_reducible exact ih1 _ _ _ _ _ _ _ _ _ _ _)
   | (with_reducible exact ih2 _ _ _ _ _ _ _ _ _ _ _ _)
   | (with_reducible exact ih3 _ _ _ _ _ _ _ _ _ _ _ _ _)
   | (with_reducible exact wigwagref07_Same.mono _ _ _)
   | (with_reducible exact LeO.refl _)
   | (with_reducible exact LeO.none _)
   | (with_reducible refine LeO.ite ?_ ?_)
   | (with_reducible refine LeO.bind ?_ (fun _ => ?_))
   | exact ih0 _ _ _ _ _ _ _ _ _ _ _
   | exact ih1 _ _ _ _ _ _ _ _ _ _ _
   | exact ih2 _ _ _ _ _ _ _ _ _ _ _ _
   | exact ih3 _ _ _ _ _ _ _ _ _ _ _ _ _
   | exact wigwagref07_Same.mono _ _ _
   | exact LeO.none _
   | refine LeO.ite ?_ ?_
   | refine LeO.bind ?_ (fun _ => ?_)
  ·intro y0 y1 y2 y3 y4 y5 y6 y7 y8 y9 y10
   unfold wigwagref17_Same.l0
   repeat' first
   | (with_reducible exact ih0 _ _ _ _ _ _ _ _ _ _ _)
   | (with_reducible exact ih1 _ _ _ _ _ _ _ _ _ _ _)
   | (with_reducible exact ih2 _ _ _ _ _ _ _ _ _ _ _ _)
   | (with_reducible exact ih3 _ _ _ _ _ _ _ _ _ _ _ _ _)
   | (with_reducible exact wigwagref07_Same.mono _ _ _)
   | (with_reducible exact LeO.refl _)
   | (with_reducible exact LeO.none _)
   | (with_reducible refine LeO.ite ?_ ?_)
   | (with_reducible refine LeO.bind ?_ (fun _ => ?_))
   | exact ih0 _ _ _ _ _ _ _ _ _ _ _
   | exact ih1 _ _ _ _ _ _ _ _ _ _ _
   | exact ih2 _ _ _ _ _ _ _ _ _ _ _ _
   | exact ih3 _ _ _ _ _ _ _ _ _ _ _ _ _
   | exact wigwagref07_Same.mono _ _ _
   | exact LeO.none _
   | refine LeO.ite ?_ ?_
   | refine LeO.bind ?_ (fun _ => ?_)
  ·intro y0 y1 y2 y3 y4 y5 y6 y7 y8 y9 y10 y11
   unfold wigwagref17_Same.l1
   repeat' first
   | (with_reducible exact ih0 _ _ _ _ _ _ _ _ _ _ _)
   | (with_reducible exact ih1 _ _ _ _ _ _ _ _ _ _ _)
   | (with_reducible exact ih2 _ _ _ _ _ _ _ _ _ _ _ _)
   | (with_reducible exact ih3 _ _ _ _ _ _ _ _ _ _ _ _ _)
   | (with_reducible exact wigwagref07_Same.mono _ _ _)
   | (with_reducible exact LeO.refl _)
   | (with_reducible exact LeO.none _)
   | (with_reducible refine LeO.ite ?_ ?_)
   | (with_reducible refine LeO.bind ?_ (fun _ => ?_))
   | exact ih0 _ _ _ _ _ _ _ _ _ _ _
   | exact ih1 _ _ _ _ _ _ _ _ _ _ _
   | exact ih2 _ _ _ _ _ _ _ _ _ _ _ _
   | exact ih3 _ _ _ _ _ _ _ _ _ _ _ _ _
   | exact wigwagref07_Same.mono _ _ _
   | exact LeO.none _
   | refine LeO.ite ?_ ?_
   | refine LeO.bind ?_ (fun _ => ?_)
  ·intro y0 y1 y2 y3 y4 y5 y6 y7 y8 y9 y10 y11 y12
   unfold wigwagref17_Same.j3
   repeat' first
   | (with_reducible exact ih0 _ _ _ _ _ _ _ _ _ _ _)
   | (with_reducible exact ih1 _ _ _ _ _ _ _ _ _ _ _)
   | (with_reducible exact ih2 _ _ _ _ _ _ _ _ _ _ _ _)
   | (with_reducible exact ih3 _ _ _ _ _ _ _ _ _ _ _ _ _)
   | (with_reducible exact wigwagref07_Same.mono _ _ _)
   | (with_reducible exact LeO.refl _)
   | (with_reducible exact LeO.none _)
   | (with_reducible refine LeO.ite ?_ ?_)
   | (with_reducible refine LeO.bind ?_ (fun _ => ?_))
   | exact ih0 _ _ _ _ _ _ _ _ _ _ _
   | exact ih1 _ _ _ _ _ _ _ _ _ _ _
   | exact ih2 _ _ _ _ _ _ _ _ _ _ _ _
   | exact ih3 _ _ _ _ _ _ _ _ _ _ _ _ _
   | exact wigwagref07_Same.mono _ _ _
   | exact LeO.none _
   | refine LeO.ite ?_ ?_
   | refine LeO.bind ?_ (fun _ => ?_)
theorem wigwagref17_Same.mono : ∀ a0 a1 a2 a3 a4 a5 a6 a7 a8 a9 k,LeO (wigwagref17_Same.f k a0 a1 a2 a3 a4 a5 a6 a7 a8 a9) (wigwagref17_Same.f (k + 1) a0 a1 a2 a3 a4 a5 a6 a7 a8 a9):=by
 intro a0 a1 a2 a3 a4 a5 a6 a7 a8 a9 k
 obtain ⟨ih0,ih1,ih2,ih3⟩:=wigwagref17_Same.mono_l k
 unfold wigwagref17_Same.f
 repeat' first
   | (with_reducible exact ih0 _ _ _ _ _ _ _ _ _ _ _)
   | (with_reducible exact ih1 _ _ _ _ _ _ _ _ _ _ _)
   | (with_reducible exact ih2 _ _ _ _ _ _ _ _ _ _ _ _)
   | (with_reducible exact ih3 _ _ _ _ _ _ _ _ _ _ _ _ _)
   | (with_reducible exact wigwagref07_Same.mono _ _ _)
   | (with_reducible exact LeO.refl _)
   | (with_reducible exact LeO.none _)
   | (with_reducible refine LeO.ite ?_ ?_)
   | (with_reducible refine LeO.bind ?_ (fun _ => ?_))
   | exact ih0 _ _ _ _ _ _ _ _ _ _ _
   | exact ih1 _ _ _ _ _ _ _ _ _ _ _
   | exact ih2 _ _ _ _ _ _ _ _ _ _ _ _
   | exact ih3 _ _ _ _ _ _ _ _ _ _ _ _ _
   | exact wigwagref07_Same.mono _ _ _
   | exact LeO.none _
   | refine LeO.ite ?_ ?_
   | refine LeO.bind ?_ (fun _ => ?_)
set_option maxHeartbeats 8000000 in
set_option maxRecDepth 100000 in
theorem wigwagref17_Same.calls (k : Nat) (a0_0 : Int) (A0_1 : Option Addr) (c0_1 : Nat) (l0_1 : List (S41)) (A0_2 : Option Addr) (c0_2 : Nat) (l0_2 : List Int) (a0_3 : Bool) (a0_4 : Int) (a1_0 : Int) (A1_1 : Option Addr) (c1_1 : Nat) (l1_1 : List (S41)) (A1_2 : Option Addr) (c1_2 : Nat) (l1_2 : List Int) (a1_3 : Bool) (a1_4 : Int) (r : Bool) (w : World) (hr0_1 : Kd.C k41 w A0_1 l0_1.length l0_1) (hc0_1 : l0_1.length ≤ c0_1) (hr0_2 : Kd.C (Kd.int .u8) w A0_2 l0_2.length l0_2) (hc0_2 : l0_2.length ≤ c0_2) (hr1_1 : Kd.C k41 w A1_1 l1_1.length l1_1) (hc1_1 : l1_1.length ≤ c1_1) (hr1_2 : Kd.C (Kd.int .u8) w A1_2 l1_2.length l1_2) (hc1_2 : l1_2.length ≤ c1_2) (h : wigwagref17_Same.f k a0_0 l0_1 l0_2 a0_3 a0_4 a1_0 l1_1 l1_2 a1_3 a1_4 = some r) :
  Calls Try.prog 14 #[.agg #[.int .u64 a0_0,.slice A0_1 l0_1.length c0_1,.slice A0_2 l0_2.length c0_2,.bool a0_3,.int .u64 a0_4],.agg #[.int .u64 a1_0,.slice A1_1 l1_1.length c1_1,.slice A1_2 l1_2.length c1_2,.bool a1_3,.int .u64 a1_4]] w fun e w' => e = .returned (.bool r) ∧ Below w.heap.size w w':=by
 have hu28:=Try.underlying28
 have HR0_1:=Aside0.mk hr0_1
 have HC0_1:=Aside0.mk hc0_1
 clear hr0_1 hc0_1
 have HR0_2:=Aside0.mk hr0_2
 have HC0_2:=Aside0.mk hc0_2
 clear hr0_2 hc0_2
 have HR1_1:=Aside0.mk hr1_1
 have HC1_1:=Aside0.mk hc1_1
 clear hr1_1 hc1_1
 have HR1_2:=Aside0.mk hr1_2
 have HC1_2:=Aside0.mk hc1_2
 clear hr1_2 hc1_2
 have HB:=Aside0.mk (Below.refl w.heap.size w)
 have H : ((wigwagref07_Same.f k l0_1 l1_1).bind fun t283 => (if t283 = true then (if a0_0 = a1_0 then (if (a0_3 != a1_3) = true then (wigwagref17_Same.j0 k true a0_0 l0_1 l0_2 a0_3 a0_4 a1_0 l1_1 l1_2 a1_3 a1_4) else (wigwagref17_Same.j0 k (a0_4 != a1_4) a0_0 l0_1 l0_2 a0_3 a0_4 a1_0 l1_1 l1_2 a1_3 a1_4)) else (wigwagref17_Same.j0 k true a0_0 l0_1 l0_2 a0_3 a0_4 a1_0 l1_1 l1_2 a1_3 a1_4)) else (wigwagref17_Same.j0 k true a0_0 l0_1 l0_2 a0_3 a0_4 a1_0 l1_1 l1_2 a1_3 a1_4))) = some r:=h
 clear h
 replace H:=Option.bind_eq_some_iff.mp H
 obtain ⟨t283,A30,H⟩:=H
 replace H : (if t283 = true then (if a0_0 = a1_0 then (if (a0_3 != a1_3) = true then (wigwagref17_Same.j0 k true a0_0 l0_1 l0_2 a0_3 a0_4 a1_0 l1_1 l1_2 a1_3 a1_4) else (wigwagref17_Same.j0 k (a0_4 != a1_4) a0_0 l0_1 l0_2 a0_3 a0_4 a1_0 l1_1 l1_2 a1_3 a1_4)) else (wigwagref17_Same.j0 k true a0_0 l0_1 l0_2 a0_3 a0_4 a1_0 l1_1 l1_2 a1_3 a1_4)) else (wigwagref17_Same.j0 k true a0_0 l0_1 l0_2 a0_3 a0_4 a1_0 l1_1 l1_2 a1_3 a1_4)) = some r:=H
 have A3:=Aside0.mk A30
 clear A30
 have HC4:=Aside0.mk H
 clear H
 go_enter Try.func14,Try.ntmps14
 go_upto_region 2 with (first | ((with_reducible refine gate_dst (N:=2) rfl ?_);(try (refine gate_guard (by rfl) ?_;dsimp only));refine box_event ?hg (N:=2) ?hd (cs:=#[.int .u64 a0_0,.slice A0_1 l0_1.length c0_1,.slice A0_2 l0_2.length c0_2,.bool a0_3,.int .u64 a0_4]) (t:=28) ?hr ?_;(case hd => rfl);(case hg => rfl);(case hr => first | (go_simp;done) | (go_simp;rfl));intro gb281 hg w5 hbox hb;have n0_:=Aside0.mk (below_step (by repeat (first | (with_reducible first | exact HB.out | apply below_alloc | apply pw_below_drewN | apply below_drew1) | exact HB.out)) hb);have n1_:=Aside0.mk (hbox);have n2_:=Aside0.mk ((by rw [hg];exact (below_size (by repeat (first | (with_reducible first | exact HB.out | apply below_alloc | apply pw_below_drewN | apply below_drew1) | exact HB.out))) : w.heap.size ≤ gb281));have n3_:=Aside0.mk ((by rw [hg];exact (below_size (by repeat (first | (with_reducible first | exact HB.out | apply below_alloc | apply pw_below_drewN | apply below_drew1) | exact HB.out))) : w.heap.size ≤ gb281));clear HB;have HB:=n0_;have BK281:=n1_;have GW281:=n2_;have GE281:=n3_;clear n0_ n1_ n2_ n3_;clear hb hbox hg) | ((with_reducible refine gate_dst (N:=3) rfl ?_);(try (refine gate_guard (by rfl) ?_;dsimp only));refine box_event ?hg (N:=3) ?hd (cs:=#[.int .u64 a1_0,.slice A1_1 l1_1.length c1_1,.slice A1_2 l1_2.length c1_2,.bool a1_3,.int .u64 a1_4]) (t:=28) ?hr ?_;(case hd => rfl);(case hg => rfl);(case hr => first | (go_simp;done) | (go_simp;rfl));intro gb282 hg w6 hbox hb;have n0_:=Aside0.mk (blk_below (g:=gb281) (o:=.cells #[.int .u64 a0_0,.slice A0_1 l0_1.length c0_1,.slice A0_2 l0_2.length c0_2,.bool a0_3,.int .u64 a0_4] 28 (0,0)) (by (with_reducible repeat (first | refine blk_drewN ?_ _ | refine blk_drew ?_ | refine blk_alloc ?_ _));exact BK281.out) hb);have n1_:=Aside0.mk (below_step (by repeat (first | (with_reducible first | exact HB.out | apply below_alloc | apply pw_below_drewN | apply below_drew1 | refine below_set ?_ GE281.out) | exact HB.out)) hb);have n2_:=Aside0.mk (hbox);have n3_:=Aside0.mk ((by rw [hg];exact (below_size (by repeat (first | (with_reducible first | exact HB.out | apply below_alloc | apply pw_below_drewN | apply below_drew1 | refine below_set ?_ GE281.out) | exact HB.out))) : w.heap.size ≤ gb282));have n4_:=Aside0.mk ((by rw [hg];exact (below_size (by repeat (first | (with_reducible first | exact HB.out | apply below_alloc | apply pw_below_drewN | apply below_drew1 | refine below_set ?_ GE281.out) | exact HB.out))) : w.heap.size ≤ gb282));have n5_:=Aside0.mk ((by rw [hg];exact Nat.ne_of_lt (blk_lt (g:=gb281) (o:=.cells #[.int .u64 a0_0,.slice A0_1 l0_1.length c0_1,.slice A0_2 l0_2.length c0_2,.bool a0_3,.int .u64 a0_4] 28 (0,0)) (by (with_reducible repeat (first | refine blk_drewN ?_ _ | refine blk_drew ?_ | refine blk_alloc ?_ _));exact BK281.out)) : gb281 ≠ gb282));have n6_:=Aside0.mk ((by rw [hg];exact Nat.ne_of_gt (blk_lt (g:=gb281) (o:=.cells #[.int .u64 a0_0,.slice A0_1 l0_1.length c0_1,.slice A0_2 l0_2.length c0_2,.bool a0_3,.int .u64 a0_4] 28 (0,0)) (by (with_reducible repeat (first | refine blk_drewN ?_ _ | refine blk_drew ?_ | refine blk_alloc ?_ _));exact BK281.out)) : gb282 ≠ gb281));clear BK281;clear HB;have BK281:=n0_;have HB:=n1_;have BK282:=n2_;have GW282:=n3_;have GE282:=n4_;have NB281_282:=n5_;have NB282_281:=n6_;clear n0_ n1_ n2_ n3_ n4_ n5_ n6_;clear hb hbox hg;have hnb7:=NB281_282.out;have hnc7:=NB282_281.out;have hcz8_0 : w6.cell? ⟨gb281,0,none⟩ = some (.int .u64 a0_0):=(blk_cell BK281.out 0).trans rfl;have hcz8_1 : w6.cell? ⟨gb281,1,none⟩ = some (.slice A0_1 l0_1.length c0_1):=(blk_cell BK281.out 1).trans rfl;have hcz8_2 : w6.cell? ⟨gb281,2,none⟩ = some (.slice A0_2 l0_2.length c0_2):=(blk_cell BK281.out 2).trans rfl;have hcz8_3 : w6.cell? ⟨gb281,3,none⟩ = some (.bool a0_3):=(blk_cell BK281.out 3).trans rfl;have hcz8_4 : w6.cell? ⟨gb281,4,none⟩ = some (.int .u64 a0_4):=(blk_cell BK281.out 4).trans rfl;have hfz8_0:=blk_frozen BK281.out 0;have hfz8_1:=blk_frozen BK281.out 1;have hfz8_2:=blk_frozen BK281.out 2;have hfz8_3:=blk_frozen BK281.out 3;have hfz8_4:=blk_frozen BK281.out 4;have hcz9_0 : w6.cell? ⟨gb282,0,none⟩ = some (.int .u64 a1_0):=(blk_cell BK282.out 0).trans rfl;have hcz9_1 : w6.cell? ⟨gb282,1,none⟩ = some (.slice A1_1 l1_1.length c1_1):=(blk_cell BK282.out 1).trans rfl;have hcz9_2 : w6.cell? ⟨gb282,2,none⟩ = some (.slice A1_2 l1_2.length c1_2):=(blk_cell BK282.out 2).trans rfl;have hcz9_3 : w6.cell? ⟨gb282,3,none⟩ = some (.bool a1_3):=(blk_cell BK282.out 3).trans rfl;have hcz9_4 : w6.cell? ⟨gb282,4,none⟩ = some (.int .u64 a1_4):=(blk_cell BK282.out 4).trans rfl;have hfz9_0:=blk_frozen BK282.out 0;have hfz9_1:=blk_frozen BK282.out 1;have hfz9_2:=blk_frozen BK282.out 2;have hfz9_3:=blk_frozen BK282.out 3;have hfz9_4:=blk_frozen BK282.out 4) | (go_at_call 21;(with_reducible refine (wigwagref07_Same.calls k _ _ l0_1 _ _ l1_1 t283 _ ?side1 ?side2 ?side3 ?side4 A3.out).mono ?_);(case side1 => repeat (first | exact (Kd.C_below HR0_1.out HB.out) | (with_reducible refine Kd.C_alloc ?_ _) | (with_reducible refine Kd.C_drewN ?_ _) | (with_reducible refine Kd.C_drew ?_)));(case side2 => exact HC0_1.out);(case side3 => repeat (first | exact (Kd.C_below HR1_1.out HB.out) | (with_reducible refine Kd.C_alloc ?_ _) | (with_reducible refine Kd.C_drewN ?_ _) | (with_reducible refine Kd.C_drew ?_)));(case side4 => exact HC1_1.out);rintro e w' ⟨rfl,⟨nd,rfl⟩⟩;(try first | exact ⟨rfl,_,World.drewN_drewN _ _ _⟩ | exact ⟨rfl,_,Eq.trans (World.drewN_drewN _ _ _) (congrArg (World.drewN _) (Nat.add_assoc _ _ _))⟩)))
 repeat (go_quiet (first | ((with_reducible refine gate_dst (N:=2) rfl ?_);(try (refine gate_guard (by rfl) ?_;dsimp only));refine box_event ?hg (N:=2) ?hd (cs:=#[.int .u64 a0_0,.slice A0_1 l0_1.length c0_1,.slice A0_2 l0_2.length c0_2,.bool a0_3,.int .u64 a0_4]) (t:=28) ?hr ?_;(case hd => rfl);(case hg => rfl);(case hr => first | (go_simp;done) | (go_simp;rfl));intro gb281 hg w5 hbox hb;have n0_:=Aside0.mk (below_step (by repeat (first | (with_reducible first | exact HB.out | apply below_alloc | apply pw_below_drewN | apply below_drew1) | exact HB.out)) hb);have n1_:=Aside0.mk (hbox);have n2_:=Aside0.mk ((by rw [hg];exact (below_size (by repeat (first | (with_reducible first | exact HB.out | apply below_alloc | apply pw_below_drewN | apply below_drew1) | exact HB.out))) : w.heap.size ≤ gb281));have n3_:=Aside0.mk ((by rw [hg];exact (below_size (by repeat (first | (with_reducible first | exact HB.out | apply below_alloc | apply pw_below_drewN | apply below_drew1) | exact HB.out))) : w.heap.size ≤ gb281));clear HB;have HB:=n0_;have BK281:=n1_;have GW281:=n2_;have GE281:=n3_;clear n0_ n1_ n2_ n3_;clear hb hbox hg) | ((with_reducible refine gate_dst (N:=3) rfl ?_);(try (refine gate_guard (by rfl) ?_;dsimp only));refine box_event ?hg (N:=3) ?hd (cs:=#[.int .u64 a1_0,.slice A1_1 l1_1.length c1_1,.slice A1_2 l1_2.length c1_2,.bool a1_3,.int .u64 a1_4]) (t:=28) ?hr ?_;(case hd => rfl);(case hg => rfl);(case hr => first | (go_simp;done) | (go_simp;rfl));intro gb282 hg w6 hbox hb;have n0_:=Aside0.mk (blk_below (g:=gb281) (o:=.cells #[.int .u64 a0_0,.slice A0_1 l0_1.length c0_1,.slice A0_2 l0_2.length c0_2,.bool a0_3,.int .u64 a0_4] 28 (0,0)) (by (with_reducible repeat (first | refine blk_drewN ?_ _ | refine blk_drew ?_ | refine blk_alloc ?_ _));exact BK281.out) hb);have n1_:=Aside0.mk (below_step (by repeat (first | (with_reducible first | exact HB.out | apply below_alloc | apply pw_below_drewN | apply below_drew1 | refine below_set ?_ GE281.out) | exact HB.out)) hb);have n2_:=Aside0.mk (hbox);have n3_:=Aside0.mk ((by rw [hg];exact (below_size (by repeat (first | (with_reducible first | exact HB.out | apply below_alloc | apply pw_below_drewN | apply below_drew1 | refine below_set ?_ GE281.out) | exact HB.out))) : w.heap.size ≤ gb282));have n4_:=Aside0.mk ((by rw [hg];exact (below_size (by repeat (first | (with_reducible first | exact HB.out | apply below_alloc | apply pw_below_drewN | apply below_drew1 | refine below_set ?_ GE281.out) | exact HB.out))) : w.heap.size ≤ gb282));have n5_:=Aside0.mk ((by rw [hg];exact Nat.ne_of_lt (blk_lt (g:=gb281) (o:=.cells #[.int .u64 a0_0,.slice A0_1 l0_1.length c0_1,.slice A0_2 l0_2.length c0_2,.bool a0_3,.int .u64 a0_4] 28 (0,0)) (by (with_reducible repeat (first | refine blk_drewN ?_ _ | refine blk_drew ?_ | refine blk_alloc ?_ _));exact BK281.out)) : gb281 ≠ gb282));have n6_:=Aside0.mk ((by rw [hg];exact Nat.ne_of_gt (blk_lt (g:=gb281) (o:=.cells #[.int .u64 a0_0,.slice A0_1 l0_1.length c0_1,.slice A0_2 l0_2.length c0_2,.bool a0_3,.int .u64 a0_4] 28 (0,0)) (by (with_reducible repeat (first | refine blk_drewN ?_ _ | refine blk_drew ?_ | refine blk_alloc ?_ _));exact BK281.out)) : gb282 ≠ gb281));clear BK281;clear HB;have BK281:=n0_;have HB:=n1_;have BK282:=n2_;have GW282:=n3_;have GE282:=n4_;have NB281_282:=n5_;have NB282_281:=n6_;clear n0_ n1_ n2_ n3_ n4_ n5_ n6_;clear hb hbox hg;have hnb7:=NB281_282.out;have hnc7:=NB282_281.out;have hcz8_0 : w6.cell? ⟨gb281,0,none⟩ = some (.int .u64 a0_0):=(blk_cell BK281.out 0).trans rfl;have hcz8_1 : w6.cell? ⟨gb281,1,none⟩ = some (.slice A0_1 l0_1.length c0_1):=(blk_cell BK281.out 1).trans rfl;have hcz8_2 : w6.cell? ⟨gb281,2,none⟩ = some (.slice A0_2 l0_2.length c0_2):=(blk_cell BK281.out 2).trans rfl;have hcz8_3 : w6.cell? ⟨gb281,3,none⟩ = some (.bool a0_3):=(blk_cell BK281.out 3).trans rfl;have hcz8_4 : w6.cell? ⟨gb281,4,none⟩ = some (.int .u64 a0_4):=(blk_cell BK281.out 4).trans rfl;have hfz8_0:=blk_frozen BK281.out 0;have hfz8_1:=blk_frozen BK281.out 1;have hfz8_2:=blk_frozen BK281.out 2;have hfz8_3:=blk_frozen BK281.out 3;have hfz8_4:=blk_frozen BK281.out 4;have hcz9_0 : w6.cell? ⟨gb282,0,none⟩ = some (.int .u64 a1_0):=(blk_cell BK282.out 0).trans rfl;have hcz9_1 : w6.cell? ⟨gb282,1,none⟩ = some (.slice A1_1 l1_1.length c1_1):=(blk_cell BK282.out 1).trans rfl;have hcz9_2 : w6.cell? ⟨gb282,2,none⟩ = some (.slice A1_2 l1_2.length c1_2):=(blk_cell BK282.out 2).trans rfl;have hcz9_3 : w6.cell? ⟨gb282,3,none⟩ = some (.bool a1_3):=(blk_cell BK282.out 3).trans rfl;have hcz9_4 : w6.cell? ⟨gb282,4,none⟩ = some (.int .u64 a1_4):=(blk_cell BK282.out 4).trans rfl;have hfz9_0:=blk_frozen BK282.out 0;have hfz9_1:=blk_frozen BK282.out 1;have hfz9_2:=blk_frozen BK282.out 2;have hfz9_3:=blk_frozen BK282.out 3;have hfz9_4:=blk_frozen BK282.out 4) | (go_at_call 21;(with_reducible refine (wigwagref07_Same.calls k _ _ l0_1 _ _ l1_1 t283 _ ?side1 ?side2 ?side3 ?side4 A3.out).mono ?_);(case side1 => repeat (first | exact (Kd.C_below HR0_1.out HB.out) | (with_reducible refine Kd.C_alloc ?_ _) | (with_reducible refine Kd.C_drewN ?_ _) | (with_reducible refine Kd.C_drew ?_)));(case side2 => exact HC0_1.out);(case side3 => repeat (first | exact (Kd.C_below HR1_1.out HB.out) | (with_reducible refine Kd.C_alloc ?_ _) | (with_reducible refine Kd.C_drewN ?_ _) | (with_reducible refine Kd.C_drew ?_)));(case side4 => exact HC1_1.out);rintro e w' ⟨rfl,⟨nd,rfl⟩⟩;(try first | exact ⟨rfl,_,World.drewN_drewN _ _ _⟩ | exact ⟨rfl,_,Eq.trans (World.drewN_drewN _ _ _) (congrArg (World.drewN _) (Nat.add_assoc _ _ _))⟩)));go_upto_region 2 with (first | ((with_reducible refine gate_dst (N:=2) rfl ?_);(try (refine gate_guard (by rfl) ?_;dsimp only));refine box_event ?hg (N:=2) ?hd (cs:=#[.int .u64 a0_0,.slice A0_1 l0_1.length c0_1,.slice A0_2 l0_2.length c0_2,.bool a0_3,.int .u64 a0_4]) (t:=28) ?hr ?_;(case hd => rfl);(case hg => rfl);(case hr => first | (go_simp;done) | (go_simp;rfl));intro gb281 hg w5 hbox hb;have n0_:=Aside0.mk (below_step (by repeat (first | (with_reducible first | exact HB.out | apply below_alloc | apply pw_below_drewN | apply below_drew1) | exact HB.out)) hb);have n1_:=Aside0.mk (hbox);have n2_:=Aside0.mk ((by rw [hg];exact (below_size (by repeat (first | (with_reducible first | exact HB.out | apply below_alloc | apply pw_below_drewN | apply below_drew1) | exact HB.out))) : w.heap.size ≤ gb281));have n3_:=Aside0.mk ((by rw [hg];exact (below_size (by repeat (first | (with_reducible first | exact HB.out | apply below_alloc | apply pw_below_drewN | apply below_drew1) | exact HB.out))) : w.heap.size ≤ gb281));clear HB;have HB:=n0_;have BK281:=n1_;have GW281:=n2_;have GE281:=n3_;clear n0_ n1_ n2_ n3_;clear hb hbox hg) | ((with_reducible refine gate_dst (N:=3) rfl ?_);(try (refine gate_guard (by rfl) ?_;dsimp only));refine box_event ?hg (N:=3) ?hd (cs:=#[.int .u64 a1_0,.slice A1_1 l1_1.length c1_1,.slice A1_2 l1_2.length c1_2,.bool a1_3,.int .u64 a1_4]) (t:=28) ?hr ?_;(case hd => rfl);(case hg => rfl);(case hr => first | (go_simp;done) | (go_simp;rfl));intro gb282 hg w6 hbox hb;have n0_:=Aside0.mk (blk_below (g:=gb281) (o:=.cells #[.int .u64 a0_0,.slice A0_1 l0_1.length c0_1,.slice A0_2 l0_2.length c0_2,.bool a0_3,.int .u64 a0_4] 28 (0,0)) (by (with_reducible repeat (first | refine blk_drewN ?_ _ | refine blk_drew ?_ | refine blk_alloc ?_ _));exact BK281.out) hb);have n1_:=Aside0.mk (below_step (by repeat (first | (with_reducible first | exact HB.out | apply below_alloc | apply pw_below_drewN | apply below_drew1 | refine below_set ?_ GE281.out) | exact HB.out)) hb);have n2_:=Aside0.mk (hbox);have n3_:=Aside0.mk ((by rw [hg];exact (below_size (by repeat (first | (with_reducible first | exact HB.out | apply below_alloc | apply pw_below_drewN | apply below_drew1 | refine below_set ?_ GE281.out) | exact HB.out))) : w.heap.size ≤ gb282));have n4_:=Aside0.mk ((by rw [hg];exact (below_size (by repeat (first | (with_reducible first | exact HB.out | apply below_alloc | apply pw_below_drewN | apply below_drew1 | refine below_set ?_ GE281.out) | exact HB.out))) : w.heap.size ≤ gb282));have n5_:=Aside0.mk ((by rw [hg];exact Nat.ne_of_lt (blk_lt (g:=gb281) (o:=.cells #[.int .u64 a0_0,.slice A0_1 l0_1.length c0_1,.slice A0_2 l0_2.length c0_2,.bool a0_3,.int .u64 a0_4] 28 (0,0)) (by (with_reducible repeat (first | refine blk_drewN ?_ _ | refine blk_drew ?_ | refine blk_alloc ?_ _));exact BK281.out)) : gb281 ≠ gb282));have n6_:=Aside0.mk ((by rw [hg];exact Nat.ne_of_gt (blk_lt (g:=gb281) (o:=.cells #[.int .u64 a0_0,.slice A0_1 l0_1.length c0_1,.slice A0_2 l0_2.length c0_2,.bool a0_3,.int .u64 a0_4] 28 (0,0)) (by (with_reducible repeat (first | refine blk_drewN ?_ _ | refine blk_drew ?_ | refine blk_alloc ?_ _));exact BK281.out)) : gb282 ≠ gb281));clear BK281;clear HB;have BK281:=n0_;have HB:=n1_;have BK282:=n2_;have GW282:=n3_;have GE282:=n4_;have NB281_282:=n5_;have NB282_281:=n6_;clear n0_ n1_ n2_ n3_ n4_ n5_ n6_;clear hb hbox hg;have hnb7:=NB281_282.out;have hnc7:=NB282_281.out;have hcz8_0 : w6.cell? ⟨gb281,0,none⟩ = some (.int .u64 a0_0):=(blk_cell BK281.out 0).trans rfl;have hcz8_1 : w6.cell? ⟨gb281,1,none⟩ = some (.slice A0_1 l0_1.length c0_1):=(blk_cell BK281.out 1).trans rfl;have hcz8_2 : w6.cell? ⟨gb281,2,none⟩ = some (.slice A0_2 l0_2.length c0_2):=(blk_cell BK281.out 2).trans rfl;have hcz8_3 : w6.cell? ⟨gb281,3,none⟩ = some (.bool a0_3):=(blk_cell BK281.out 3).trans rfl;have hcz8_4 : w6.cell? ⟨gb281,4,none⟩ = some (.int .u64 a0_4):=(blk_cell BK281.out 4).trans rfl;have hfz8_0:=blk_frozen BK281.out 0;have hfz8_1:=blk_frozen BK281.out 1;have hfz8_2:=blk_frozen BK281.out 2;have hfz8_3:=blk_frozen BK281.out 3;have hfz8_4:=blk_frozen BK281.out 4;have hcz9_0 : w6.cell? ⟨gb282,0,none⟩ = some (.int .u64 a1_0):=(blk_cell BK282.out 0).trans rfl;have hcz9_1 : w6.cell? ⟨gb282,1,none⟩ = some (.slice A1_1 l1_1.length c1_1):=(blk_cell BK282.out 1).trans rfl;have hcz9_2 : w6.cell? ⟨gb282,2,none⟩ = some (.slice A1_2 l1_2.length c1_2):=(blk_cell BK282.out 2).trans rfl;have hcz9_3 : w6.cell? ⟨gb282,3,none⟩ = some (.bool a1_3):=(blk_cell BK282.out 3).trans rfl;have hcz9_4 : w6.cell? ⟨gb282,4,none⟩ = some (.int .u64 a1_4):=(blk_cell BK282.out 4).trans rfl;have hfz9_0:=blk_frozen BK282.out 0;have hfz9_1:=blk_frozen BK282.out 1;have hfz9_2:=blk_frozen BK282.out 2;have hfz9_3:=blk_frozen BK282.out 3;have hfz9_4:=blk_frozen BK282.out 4) | (go_at_call 21;(with_reducible refine (wigwagref07_Same.calls k _ _ l0_1 _ _ l1_1 t283 _ ?side1 ?side2 ?side3 ?side4 A3.out).mono ?_);(case side1 => repeat (first | exact (Kd.C_below HR0_1.out HB.out) | (with_reducible refine Kd.C_alloc ?_ _) | (with_reducible refine Kd.C_drewN ?_ _) | (with_reducible refine Kd.C_drew ?_)));(case side2 => exact HC0_1.out);(case side3 => repeat (first | exact (Kd.C_below HR1_1.out HB.out) | (with_reducible refine Kd.C_alloc ?_ _) | (with_reducible refine Kd.C_drewN ?_ _) | (with_reducible refine Kd.C_drew ?_)));(case side4 => exact HC1_1.out);rintro e w' ⟨rfl,⟨nd,rfl⟩⟩;(try first | exact ⟨rfl,_,World.drewN_drewN _ _ _⟩ | exact ⟨rfl,_,Eq.trans (World.drewN_drewN _ _ _) (congrArg (World.drewN _) (Nat.add_assoc _ _ _))⟩))))
 (try simp only [Act.put,List.setIfInBounds_toArray,List.set_cons_zero,List.set_cons_succ])
 go_cut [36] (fun v36 wc => ∃ (kq : Nat) (x36_3 : Bool),v36 = .bool x36_3 ∧ Aside0 (wigwagref17_Same.j0 kq x36_3 a0_0 l0_1 l0_2 a0_3 a0_4 a1_0 l1_1 l1_2 a1_3 a1_4 = some r) ∧ Aside0 (kq ≤ k) ∧ Aside0 (wc.heap[gb281]? = some (.cells #[.int .u64 a0_0,(.slice A0_1 l0_1.length c0_1),(.slice A0_2 l0_2.length c0_2),.bool a0_3,.int .u64 a0_4] 28 (0,0))) ∧ Aside0 (wc.heap[gb282]? = some (.cells #[.int .u64 a1_0,(.slice A1_1 l1_1.length c1_1),(.slice A1_2 l1_2.length c1_2),.bool a1_3,.int .u64 a1_4] 28 (0,0))) ∧ Aside0 (Below w.heap.size w wc))
 case first =>
  have H:=HC4.out
  clear HC4
  by_cases c10 : t283 = true
  ·subst c10
   have H1 : (if a0_0 = a1_0 then (if (a0_3 != a1_3) = true then (wigwagref17_Same.j0 k true a0_0 l0_1 l0_2 a0_3 a0_4 a1_0 l1_1 l1_2 a1_3 a1_4) else (wigwagref17_Same.j0 k (a0_4 != a1_4) a0_0 l0_1 l0_2 a0_3 a0_4 a1_0 l1_1 l1_2 a1_3 a1_4)) else (wigwagref17_Same.j0 k true a0_0 l0_1 l0_2 a0_3 a0_4 a1_0 l1_1 l1_2 a1_3 a1_4)) = some r:=by rw [if_pos rfl] at H;exact H
   clear H
   have H:=H1
   clear H1
   by_cases c11 : a0_0 = a1_0
   ·rw [if_pos c11] at H
    have c11b0 : (a0_0 == a1_0) = true:=beq_iff_eq.mpr c11
    have c11b1 : (a0_0 != a1_0) = false:=bne_eq_false_iff_eq.mpr c11
    clear c11
    (first | rw [c11b0] | (simp only [i64_w,i32_w];rw [c11b0]) | skip)
    by_cases c12 : (a0_3 != a1_3) = true
    ·rw [if_pos c12] at H
     have c12b0 : (a0_3 != a1_3) = true:=c12
     (try (have c12b1 : decide (a0_3 = a1_3) = false:=by simpa using c12))
     (try (have c12b2 : (a0_3 == a1_3) = false:=by simpa using c12))
     (try (have c12b3 : ¬ (a0_3 = a1_3):=by simpa using c12))
     clear c12
     have H':=Aside0.mk H
     clear H
     have hnb13:=NB281_282.out
     have hnc13:=NB282_281.out
     have hcz14_0 : w6.cell? ⟨gb281,0,none⟩ = some (.int .u64 a0_0):=(blk_cell BK281.out 0).trans rfl
     have hcz14_1 : w6.cell? ⟨gb281,1,none⟩ = some (.slice A0_1 l0_1.length c0_1):=(blk_cell BK281.out 1).trans rfl
     have hcz14_2 : w6.cell? ⟨gb281,2,none⟩ = some (.slice A0_2 l0_2.length c0_2):=(blk_cell BK281.out 2).trans rfl
     have hcz14_3 : w6.cell? ⟨gb281,3,none⟩ = some (.bool a0_3):=(blk_cell BK281.out 3).trans rfl
     have hcz14_4 : w6.cell? ⟨gb281,4,none⟩ = some (.int .u64 a0_4):=(blk_cell BK281.out 4).trans rfl
     have hfz14_0:=blk_frozen BK281.out 0
     have hfz14_1:=blk_frozen BK281.out 1
     have hfz14_2:=blk_frozen BK281.out 2
     have hfz14_3:=blk_frozen BK281.out 3
     have hfz14_4:=blk_frozen BK281.out 4
     have hcz15_0 : w6.cell? ⟨gb282,0,none⟩ = some (.int .u64 a1_0):=(blk_cell BK282.out 0).trans rfl
     have hcz15_1 : w6.cell? ⟨gb282,1,none⟩ = some (.slice A1_1 l1_1.length c1_1):=(blk_cell BK282.out 1).trans rfl
     have hcz15_2 : w6.cell? ⟨gb282,2,none⟩ = some (.slice A1_2 l1_2.length c1_2):=(blk_cell BK282.out 2).trans rfl
     have hcz15_3 : w6.cell? ⟨gb282,3,none⟩ = some (.bool a1_3):=(blk_cell BK282.out 3).trans rfl
     have hcz15_4 : w6.cell? ⟨gb282,4,none⟩ = some (.int .u64 a1_4):=(blk_cell BK282.out 4).trans rfl
     have hfz15_0:=blk_frozen BK282.out 0
     have hfz15_1:=blk_frozen BK282.out 1
     have hfz15_2:=blk_frozen BK282.out 2
     have hfz15_3:=blk_frozen BK282.out 3
     have hfz15_4:=blk_frozen BK282.out 4
     go_wp2
     repeat (go_quiet (fail);try go_wp2)
     go_meet
     case rel => exact ⟨_,(true),(by first | rfl | (simp;done) | (simp [*];done)),H',⟨by first | omega | exact Nat.le_refl _⟩,⟨by (with_reducible repeat (first | refine blk_drewN ?_ _ | refine blk_drew ?_ | refine blk_alloc ?_ _));exact BK281.out⟩,⟨by (with_reducible repeat (first | refine blk_drewN ?_ _ | refine blk_drew ?_ | refine blk_alloc ?_ _));exact BK282.out⟩,⟨by repeat (first | (with_reducible first | exact HB.out | apply below_alloc | apply pw_below_drewN | apply below_drew1 | refine below_set ?_ GE281.out | refine below_set ?_ GE282.out) | exact HB.out)⟩⟩
    ·rw [if_neg c12] at H
     have c12b0 : (a0_3 != a1_3) = false:=by simpa using c12
     (try (have c12b1 : decide (a0_3 = a1_3) = true:=by simpa using c12))
     (try (have c12b2 : (a0_3 == a1_3) = true:=by simpa using c12))
     clear c12
     have H':=Aside0.mk H
     clear H
     have hnb16:=NB281_282.out
     have hnc16:=NB282_281.out
     have hcz17_0 : w6.cell? ⟨gb281,0,none⟩ = some (.int .u64 a0_0):=(blk_cell BK281.out 0).trans rfl
     have hcz17_1 : w6.cell? ⟨gb281,1,none⟩ = some (.slice A0_1 l0_1.length c0_1):=(blk_cell BK281.out 1).trans rfl
     have hcz17_2 : w6.cell? ⟨gb281,2,none⟩ = some (.slice A0_2 l0_2.length c0_2):=(blk_cell BK281.out 2).trans rfl
     have hcz17_3 : w6.cell? ⟨gb281,3,none⟩ = some (.bool a0_3):=(blk_cell BK281.out 3).trans rfl
     have hcz17_4 : w6.cell? ⟨gb281,4,none⟩ = some (.int .u64 a0_4):=(blk_cell BK281.out 4).trans rfl
     have hfz17_0:=blk_frozen BK281.out 0
     have hfz17_1:=blk_frozen BK281.out 1
     have hfz17_2:=blk_frozen BK281.out 2
     have hfz17_3:=blk_frozen BK281.out 3
     have hfz17_4:=blk_frozen BK281.out 4
     have hcz18_0 : w6.cell? ⟨gb282,0,none⟩ = some (.int .u64 a1_0):=(blk_cell BK282.out 0).trans rfl
     have hcz18_1 : w6.cell? ⟨gb282,1,none⟩ = some (.slice A1_1 l1_1.length c1_1):=(blk_cell BK282.out 1).trans rfl
     have hcz18_2 : w6.cell? ⟨gb282,2,none⟩ = some (.slice A1_2 l1_2.length c1_2):=(blk_cell BK282.out 2).trans rfl
     have hcz18_3 : w6.cell? ⟨gb282,3,none⟩ = some (.bool a1_3):=(blk_cell BK282.out 3).trans rfl
     have hcz18_4 : w6.cell? ⟨gb282,4,none⟩ = some (.int .u64 a1_4):=(blk_cell BK282.out 4).trans rfl
     have hfz18_0:=blk_frozen BK282.out 0
     have hfz18_1:=blk_frozen BK282.out 1
     have hfz18_2:=blk_frozen BK282.out 2
     have hfz18_3:=blk_frozen BK282.out 3
     have hfz18_4:=blk_frozen BK282.out 4
     go_wp2
     repeat (go_quiet (fail);try go_wp2)
     go_meet
     case rel => exact ⟨_,((a0_4 != a1_4)),(by first | rfl | (simp;done) | (simp [*];done)),H',⟨by first | omega | exact Nat.le_refl _⟩,⟨by (with_reducible repeat (first | refine blk_drewN ?_ _ | refine blk_drew ?_ | refine blk_alloc ?_ _));exact BK281.out⟩,⟨by (with_reducible repeat (first | refine blk_drewN ?_ _ | refine blk_drew ?_ | refine blk_alloc ?_ _));exact BK282.out⟩,⟨by repeat (first | (with_reducible first | exact HB.out | apply below_alloc | apply pw_below_drewN | apply below_drew1 | refine below_set ?_ GE281.out | refine below_set ?_ GE282.out) | exact HB.out)⟩⟩
   ·rw [if_neg c11] at H
    have c11b0 : (a0_0 == a1_0) = false:=beq_eq_false_iff_ne.mpr c11
    have c11b1 : (a0_0 != a1_0) = true:=bne_iff_ne.mpr c11
    (first | rw [c11b0] | (simp only [i64_w,i32_w];rw [c11b0]) | skip)
    have H':=Aside0.mk H
    clear H
    have hnb19:=NB281_282.out
    have hnc19:=NB282_281.out
    have hcz20_0 : w6.cell? ⟨gb281,0,none⟩ = some (.int .u64 a0_0):=(blk_cell BK281.out 0).trans rfl
    have hcz20_1 : w6.cell? ⟨gb281,1,none⟩ = some (.slice A0_1 l0_1.length c0_1):=(blk_cell BK281.out 1).trans rfl
    have hcz20_2 : w6.cell? ⟨gb281,2,none⟩ = some (.slice A0_2 l0_2.length c0_2):=(blk_cell BK281.out 2).trans rfl
    have hcz20_3 : w6.cell? ⟨gb281,3,none⟩ = some (.bool a0_3):=(blk_cell BK281.out 3).trans rfl
    have hcz20_4 : w6.cell? ⟨gb281,4,none⟩ = some (.int .u64 a0_4):=(blk_cell BK281.out 4).trans rfl
    have hfz20_0:=blk_frozen BK281.out 0
    have hfz20_1:=blk_frozen BK281.out 1
    have hfz20_2:=blk_frozen BK281.out 2
    have hfz20_3:=blk_frozen BK281.out 3
    have hfz20_4:=blk_frozen BK281.out 4
    have hcz21_0 : w6.cell? ⟨gb282,0,none⟩ = some (.int .u64 a1_0):=(blk_cell BK282.out 0).trans rfl
    have hcz21_1 : w6.cell? ⟨gb282,1,none⟩ = some (.slice A1_1 l1_1.length c1_1):=(blk_cell BK282.out 1).trans rfl
    have hcz21_2 : w6.cell? ⟨gb282,2,none⟩ = some (.slice A1_2 l1_2.length c1_2):=(blk_cell BK282.out 2).trans rfl
    have hcz21_3 : w6.cell? ⟨gb282,3,none⟩ = some (.bool a1_3):=(blk_cell BK282.out 3).trans rfl
    have hcz21_4 : w6.cell? ⟨gb282,4,none⟩ = some (.int .u64 a1_4):=(blk_cell BK282.out 4).trans rfl
    have hfz21_0:=blk_frozen BK282.out 0
    have hfz21_1:=blk_frozen BK282.out 1
    have hfz21_2:=blk_frozen BK282.out 2
    have hfz21_3:=blk_frozen BK282.out 3
    have hfz21_4:=blk_frozen BK282.out 4
    go_wp2
    repeat (go_quiet (fail);try go_wp2)
    go_meet
    case rel => exact ⟨_,(true),(by first | rfl | (simp;done) | (simp [*];done)),H',⟨by first | omega | exact Nat.le_refl _⟩,⟨by (with_reducible repeat (first | refine blk_drewN ?_ _ | refine blk_drew ?_ | refine blk_alloc ?_ _));exact BK281.out⟩,⟨by (with_reducible repeat (first | refine blk_drewN ?_ _ | refine blk_drew ?_ | refine blk_alloc ?_ _));exact BK282.out⟩,⟨by repeat (first | (with_reducible first | exact HB.out | apply below_alloc | apply pw_below_drewN | apply below_drew1 | refine below_set ?_ GE281.out | refine below_set ?_ GE282.out) | exact HB.out)⟩⟩
  ·replace c10:=Bool.eq_false_iff.mpr c10
   subst c10
   have H1 : (wigwagref17_Same.j0 k true a0_0 l0_1 l0_2 a0_3 a0_4 a1_0 l1_1 l1_2 a1_3 a1_4) = some r:=by rw [if_neg (show ¬ (false = true) by decide)] at H;exact H
   clear H
   have H:=H1
   clear H1
   have H':=Aside0.mk H
   clear H
   go_wp2
   repeat (go_quiet (fail);try go_wp2)
   go_meet
   case rel => exact ⟨_,(true),(by first | rfl | (simp;done) | (simp [*];done)),H',⟨by first | omega | exact Nat.le_refl _⟩,⟨by (with_reducible repeat (first | refine blk_drewN ?_ _ | refine blk_drew ?_ | refine blk_alloc ?_ _));exact BK281.out⟩,⟨by (with_reducible repeat (first | refine blk_drewN ?_ _ | refine blk_drew ?_ | refine blk_alloc ?_ _));exact BK282.out⟩,⟨by repeat (first | (with_reducible first | exact HB.out | apply below_alloc | apply pw_below_drewN | apply below_drew1 | refine below_set ?_ GE281.out | refine below_set ?_ GE282.out) | exact HB.out)⟩⟩
 case rest =>
  clear HC4
  try clear c1
  try clear p2
  try clear c7
  try clear c10
  try clear c11
  try clear c11b0
  try clear c11b1
  try clear c12
  try clear c12b0
  try clear c12b1
  try clear c12b2
  try clear c13
  try clear c14
  try clear c16
  try clear c19
  try clear hcz14_0
  try clear hcz14_1
  try clear hcz14_2
  try clear hcz14_3
  try clear hcz14_4
  try clear hcz15_0
  try clear hcz15_1
  try clear hcz15_2
  try clear hcz15_3
  try clear hcz15_4
  try clear hcz17_0
  try clear hcz17_1
  try clear hcz17_2
  try clear hcz17_3
  try clear hcz17_4
  try clear hcz18_0
  try clear hcz18_1
  try clear hcz18_2
  try clear hcz18_3
  try clear hcz18_4
  try clear hcz20_0
  try clear hcz20_1
  try clear hcz20_2
  try clear hcz20_3
  try clear hcz20_4
  try clear hcz21_0
  try clear hcz21_1
  try clear hcz21_2
  try clear hcz21_3
  try clear hcz21_4
  try clear hcz8_0
  try clear hcz8_1
  try clear hcz8_2
  try clear hcz8_3
  try clear hcz8_4
  try clear hcz9_0
  try clear hcz9_1
  try clear hcz9_2
  try clear hcz9_3
  try clear hcz9_4
  try clear hfz14_0
  try clear hfz14_1
  try clear hfz14_2
  try clear hfz14_3
  try clear hfz14_4
  try clear hfz15_0
  try clear hfz15_1
  try clear hfz15_2
  try clear hfz15_3
  try clear hfz15_4
  try clear hfz17_0
  try clear hfz17_1
  try clear hfz17_2
  try clear hfz17_3
  try clear hfz17_4
  try clear hfz18_0
  try clear hfz18_1
  try clear hfz18_2
  try clear hfz18_3
  try clear hfz18_4
  try clear hfz20_0
  try clear hfz20_1
  try clear hfz20_2
  try clear hfz20_3
  try clear hfz20_4
  try clear hfz21_0
  try clear hfz21_1
  try clear hfz21_2
  try clear hfz21_3
  try clear hfz21_4
  try clear hfz8_0
  try clear hfz8_1
  try clear hfz8_2
  try clear hfz8_3
  try clear hfz8_4
  try clear hfz9_0
  try clear hfz9_1
  try clear hfz9_2
  try clear hfz9_3
  try clear hfz9_4
  obtain ⟨kq,x36_3,rfl,HA,HJ3,BK281,BK282,HB⟩:=hcut
  cases kq with
  | zero => exact absurd HA.out (by simp [wigwagref17_Same.j0])
  | succ kj3 =>
   have H:=HA.out
   clear HA
   simp only [wigwagref17_Same.j0] at H
   by_cases c22 : x36_3 = true
   ·subst c22
    have H1 : (some false) = some r:=by rw [if_pos rfl] at H;exact H
    clear H
    have H:=H1
    clear H1
    obtain rfl:=Option.some.inj H
    go_wp2
    repeat (go_quiet (fail);try go_wp2)
    go_ret
    exact ⟨by first | rfl | (simp [errW_none,errW_some] <;> rfl) | (simp [*,errW_none,errW_some] <;> rfl),by repeat (first | (with_reducible first | exact HB.out | apply below_alloc | apply pw_below_drewN | apply below_drew1 | refine below_set ?_ GE281.out | refine below_set ?_ GE282.out) | exact HB.out)⟩
   ·replace c22:=Bool.eq_false_iff.mpr c22
    subst c22
    have H1 : (wigwagref17_Same.l0 kj3 0 a0_0 l0_1 l0_2 a0_3 a0_4 a1_0 l1_1 l1_2 a1_3 a1_4) = some r:=by rw [if_neg (show ¬ (false = true) by decide)] at H;exact H
    clear H
    have H:=H1
    clear H1
    have H':=Aside0.mk H
    clear H
    go_wp2
    repeat (go_quiet (fail);try go_wp2)
    go_loopg [6] kj3 (fun kq v6 w' => ∃ (x6_2 : Int),v6 = .int .i64 x6_2 ∧ Aside0 (wigwagref17_Same.l0 kq x6_2 a0_0 l0_1 l0_2 a0_3 a0_4 a1_0 l1_1 l1_2 a1_3 a1_4 = some r) ∧ Aside0 (kq ≤ kj3) ∧ Aside0 (w'.heap[gb281]? = some (.cells #[.int .u64 a0_0,(.slice A0_1 l0_1.length c0_1),(.slice A0_2 l0_2.length c0_2),.bool a0_3,.int .u64 a0_4] 28 (0,0))) ∧ Aside0 (w'.heap[gb282]? = some (.cells #[.int .u64 a1_0,(.slice A1_1 l1_1.length c1_1),(.slice A1_2 l1_2.length c1_2),.bool a1_3,.int .u64 a1_4] 28 (0,0))) ∧ Aside0 (Below w.heap.size w w'))
    case atStart => exact ⟨(0),(by first | rfl | (simp;done) | (simp [*];done)),H',⟨Nat.le_refl _⟩,⟨by (with_reducible repeat (first | refine blk_drewN ?_ _ | refine blk_drew ?_ | refine blk_alloc ?_ _));exact BK281.out⟩,⟨by (with_reducible repeat (first | refine blk_drewN ?_ _ | refine blk_drew ?_ | refine blk_alloc ?_ _));exact BK282.out⟩,⟨by repeat (first | (with_reducible first | exact HB.out | apply below_alloc | apply pw_below_drewN | apply below_drew1 | refine below_set ?_ GE281.out | refine below_set ?_ GE282.out) | exact HB.out)⟩⟩
    case round =>
     clear H'
     try clear c1
     try clear c2
     try clear p2
     try clear c7
     try clear c10
     try clear c11
     try clear c11b0
     try clear c11b1
     try clear c12
     try clear c12b0
     try clear c12b1
     try clear c12b2
     try clear c13
     try clear c14
     try clear c16
     try clear c19
     try clear c22
     try clear hcz14_0
     try clear hcz14_1
     try clear hcz14_2
     try clear hcz14_3
     try clear hcz14_4
     try clear hcz15_0
     try clear hcz15_1
     try clear hcz15_2
     try clear hcz15_3
     try clear hcz15_4
     try clear hcz17_0
     try clear hcz17_1
     try clear hcz17_2
     try clear hcz17_3
     try clear hcz17_4
     try clear hcz18_0
     try clear hcz18_1
     try clear hcz18_2
     try clear hcz18_3
     try clear hcz18_4
     try clear hcz20_0
     try clear hcz20_1
     try clear hcz20_2
     try clear hcz20_3
     try clear hcz20_4
     try clear hcz21_0
     try clear hcz21_1
     try clear hcz21_2
     try clear hcz21_3
     try clear hcz21_4
     try clear hcz8_0
     try clear hcz8_1
     try clear hcz8_2
     try clear hcz8_3
     try clear hcz8_4
     try clear hcz9_0
     try clear hcz9_1
     try clear hcz9_2
     try clear hcz9_3
     try clear hcz9_4
     try clear hfz14_0
     try clear hfz14_1
     try clear hfz14_2
     try clear hfz14_3
     try clear hfz14_4
     try clear hfz15_0
     try clear hfz15_1
     try clear hfz15_2
     try clear hfz15_3
     try clear hfz15_4
     try clear hfz17_0
     try clear hfz17_1
     try clear hfz17_2
     try clear hfz17_3
     try clear hfz17_4
     try clear hfz18_0
     try clear hfz18_1
     try clear hfz18_2
     try clear hfz18_3
     try clear hfz18_4
     try clear hfz20_0
     try clear hfz20_1
     try clear hfz20_2
     try clear hfz20_3
     try clear hfz20_4
     try clear hfz21_0
     try clear hfz21_1
     try clear hfz21_2
     try clear hfz21_3
     try clear hfz21_4
     try clear hfz8_0
     try clear hfz8_1
     try clear hfz8_2
     try clear hfz8_3
     try clear hfz8_4
     try clear hfz9_0
     try clear hfz9_1
     try clear hfz9_2
     try clear hfz9_3
     try clear hfz9_4
     try clear p2
     obtain ⟨x6_2,rfl,HA,HK2,BK281,BK282,HB⟩:=hrel
     cases gk with
     | zero => exact absurd HA.out (by simp [wigwagref17_Same.l0])
     | succ k2 =>
      have H:=HA.out
      clear HA
      simp only [wigwagref17_Same.l0] at H
      by_cases c23 : x6_2 < (l0_1.length : Int)
      ·rw [if_pos c23] at H
       have c23b0 : decide (x6_2 < (l0_1.length : Int)) = true:=decide_eq_true c23
       clear c23
       by_cases c24 : 0 ≤ x6_2
       ·rw [if_pos c24] at H
        have c24b0 : decide (0 ≤ x6_2) = true:=decide_eq_true c24
        clear c24
        have H':=Aside0.mk H
        clear H
        have hnb25:=NB281_282.out
        have hnc25:=NB282_281.out
        have hcz26_0 : wr.cell? ⟨gb281,0,none⟩ = some (.int .u64 a0_0):=(blk_cell BK281.out 0).trans rfl
        have hcz26_1 : wr.cell? ⟨gb281,1,none⟩ = some (.slice A0_1 l0_1.length c0_1):=(blk_cell BK281.out 1).trans rfl
        have hcz26_2 : wr.cell? ⟨gb281,2,none⟩ = some (.slice A0_2 l0_2.length c0_2):=(blk_cell BK281.out 2).trans rfl
        have hcz26_3 : wr.cell? ⟨gb281,3,none⟩ = some (.bool a0_3):=(blk_cell BK281.out 3).trans rfl
        have hcz26_4 : wr.cell? ⟨gb281,4,none⟩ = some (.int .u64 a0_4):=(blk_cell BK281.out 4).trans rfl
        have hfz26_0:=blk_frozen BK281.out 0
        have hfz26_1:=blk_frozen BK281.out 1
        have hfz26_2:=blk_frozen BK281.out 2
        have hfz26_3:=blk_frozen BK281.out 3
        have hfz26_4:=blk_frozen BK281.out 4
        have p284 : 0 ≤ (x6_2 : Int):=of_decide_eq_true (by first | (with_reducible assumption) | assumption)
        have q284 : x6_2 < (l0_1.length : Int):=of_decide_eq_true (by first | (with_reducible assumption) | assumption)
        obtain ⟨ad284,e284,hx284_0,hx284_1⟩:=at_T41 HR0_1.out x6_2 p284 q284
        cases e284
        replace hx284_0:=(HB.out.cell (World.block_lt_of_cell? w _ hx284_0)).trans hx284_0
        replace hx284_1:=(HB.out.cell (World.block_lt_of_cell? w _ hx284_1)).trans hx284_1
        replace p284:=eq_true p284
        replace q284:=eq_true q284
        go_wp2
        repeat (go_quiet (fail);try go_wp2)
        go_loopg [7] k2 (fun kq v7 w' => ∃ (x7_3 : Int),v7 = .int .u64 x7_3 ∧ Aside0 (wigwagref17_Same.l1 kq x6_2 x7_3 a0_0 l0_1 l0_2 a0_3 a0_4 a1_0 l1_1 l1_2 a1_3 a1_4 = some r) ∧ Aside0 (kq ≤ k2) ∧ Aside0 (w'.heap[gb281]? = some (.cells #[.int .u64 a0_0,(.slice (some ad284) l0_1.length c0_1),(.slice A0_2 l0_2.length c0_2),.bool a0_3,.int .u64 a0_4] 28 (0,0))) ∧ Aside0 (w'.heap[gb282]? = some (.cells #[.int .u64 a1_0,(.slice A1_1 l1_1.length c1_1),(.slice A1_2 l1_2.length c1_2),.bool a1_3,.int .u64 a1_4] 28 (0,0))) ∧ Aside0 (Below w.heap.size w w'))
        case atStart => exact ⟨((rd_T41 l0_1 x6_2).f0),(by first | rfl | (simp;done) | (simp [*];done)),H',⟨Nat.le_refl _⟩,⟨by (with_reducible repeat (first | refine blk_drewN ?_ _ | refine blk_drew ?_ | refine blk_alloc ?_ _));exact BK281.out⟩,⟨by (with_reducible repeat (first | refine blk_drewN ?_ _ | refine blk_drew ?_ | refine blk_alloc ?_ _));exact BK282.out⟩,⟨by repeat (first | (with_reducible first | exact HB.out | apply below_alloc | apply pw_below_drewN | apply below_drew1 | refine below_set ?_ GE281.out | refine below_set ?_ GE282.out) | exact HB.out)⟩⟩
        case round =>
         clear H'
         try clear c1
         try clear c2
         try clear p2
         try clear q2
         try clear hx2
         try clear c7
         try clear c10
         try clear c11
         try clear c11b0
         try clear c11b1
         try clear c12
         try clear c12b0
         try clear c12b1
         try clear c12b2
         try clear c13
         try clear c14
         try clear c16
         try clear c19
         try clear c22
         try clear c23
         try clear c23b0
         try clear c24
         try clear c24b0
         try clear c25
         try clear hcz14_0
         try clear hcz14_1
         try clear hcz14_2
         try clear hcz14_3
         try clear hcz14_4
         try clear hcz15_0
         try clear hcz15_1
         try clear hcz15_2
         try clear hcz15_3
         try clear hcz15_4
         try clear hcz17_0
         try clear hcz17_1
         try clear hcz17_2
         try clear hcz17_3
         try clear hcz17_4
         try clear hcz18_0
         try clear hcz18_1
         try clear hcz18_2
         try clear hcz18_3
         try clear hcz18_4
         try clear hcz20_0
         try clear hcz20_1
         try clear hcz20_2
         try clear hcz20_3
         try clear hcz20_4
         try clear hcz21_0
         try clear hcz21_1
         try clear hcz21_2
         try clear hcz21_3
         try clear hcz21_4
         try clear hcz26_0
         try clear hcz26_1
         try clear hcz26_2
         try clear hcz26_3
         try clear hcz26_4
         try clear hcz8_0
         try clear hcz8_1
         try clear hcz8_2
         try clear hcz8_3
         try clear hcz8_4
         try clear hcz9_0
         try clear hcz9_1
         try clear hcz9_2
         try clear hcz9_3
         try clear hcz9_4
         try clear hfz14_0
         try clear hfz14_1
         try clear hfz14_2
         try clear hfz14_3
         try clear hfz14_4
         try clear hfz15_0
         try clear hfz15_1
         try clear hfz15_2
         try clear hfz15_3
         try clear hfz15_4
         try clear hfz17_0
         try clear hfz17_1
         try clear hfz17_2
         try clear hfz17_3
         try clear hfz17_4
         try clear hfz18_0
         try clear hfz18_1
         try clear hfz18_2
         try clear hfz18_3
         try clear hfz18_4
         try clear hfz20_0
         try clear hfz20_1
         try clear hfz20_2
         try clear hfz20_3
         try clear hfz20_4
         try clear hfz21_0
         try clear hfz21_1
         try clear hfz21_2
         try clear hfz21_3
         try clear hfz21_4
         try clear hfz26_0
         try clear hfz26_1
         try clear hfz26_2
         try clear hfz26_3
         try clear hfz26_4
         try clear hfz8_0
         try clear hfz8_1
         try clear hfz8_2
         try clear hfz8_3
         try clear hfz8_4
         try clear hfz9_0
         try clear hfz9_1
         try clear hfz9_2
         try clear hfz9_3
         try clear hfz9_4
         try clear hx284_0
         try clear hx284_1
         try clear p2
         try clear p284
         try clear q284
         obtain ⟨x7_3,rfl,HA,HK3,BK281,BK282,HB⟩:=hrel
         cases gk with
         | zero => exact absurd HA.out (by simp [wigwagref17_Same.l1])
         | succ k3 =>
          have H:=HA.out
          clear HA
          simp only [wigwagref17_Same.l1] at H
          by_cases c27 : 0 ≤ x6_2
          ·rw [if_pos c27] at H
           have c27b0 : decide (0 ≤ x6_2) = true:=decide_eq_true c27
           clear c27
           by_cases c28 : x6_2 < (l0_1.length : Int)
           ·rw [if_pos c28] at H
            have c28b0 : decide (x6_2 < (l0_1.length : Int)) = true:=decide_eq_true c28
            clear c28
            by_cases c29 : x7_3 < ((rd_T41 l0_1 x6_2).f1)
            ·rw [if_pos c29] at H
             have c29b0 : decide (x7_3 < ((rd_T41 l0_1 x6_2).f1)) = true:=decide_eq_true c29
             clear c29
             have HC30:=Aside0.mk H
             clear H
             have hnb31:=NB281_282.out
             have hnc31:=NB282_281.out
             have hcz32_0 : wr.cell? ⟨gb281,0,none⟩ = some (.int .u64 a0_0):=(blk_cell BK281.out 0).trans rfl
             have hcz32_1 : wr.cell? ⟨gb281,1,none⟩ = some (.slice (some ad284) l0_1.length c0_1):=(blk_cell BK281.out 1).trans rfl
             have hcz32_2 : wr.cell? ⟨gb281,2,none⟩ = some (.slice A0_2 l0_2.length c0_2):=(blk_cell BK281.out 2).trans rfl
             have hcz32_3 : wr.cell? ⟨gb281,3,none⟩ = some (.bool a0_3):=(blk_cell BK281.out 3).trans rfl
             have hcz32_4 : wr.cell? ⟨gb281,4,none⟩ = some (.int .u64 a0_4):=(blk_cell BK281.out 4).trans rfl
             have hfz32_0:=blk_frozen BK281.out 0
             have hfz32_1:=blk_frozen BK281.out 1
             have hfz32_2:=blk_frozen BK281.out 2
             have hfz32_3:=blk_frozen BK281.out 3
             have hfz32_4:=blk_frozen BK281.out 4
             have p285 : 0 ≤ (x6_2 : Int):=of_decide_eq_true (by first | (with_reducible assumption) | assumption)
             have q285 : x6_2 < (l0_1.length : Int):=of_decide_eq_true (by first | (with_reducible assumption) | assumption)
             obtain ⟨ad285,e285,hx285_0,hx285_1⟩:=at_T41 HR0_1.out x6_2 p285 q285
             obtain rfl : ad284 = ad285:=(by injection e285)
             replace hx285_0:=(HB.out.cell (World.block_lt_of_cell? w _ hx285_0)).trans hx285_0
             replace hx285_1:=(HB.out.cell (World.block_lt_of_cell? w _ hx285_1)).trans hx285_1
             replace p285:=eq_true p285
             replace q285:=eq_true q285
             go_upto_region 11 with (fail)
             repeat (go_quiet (fail);go_upto_region 11 with (fail))
             go_cut [90] (fun v90 wc => ∃ (kq : Nat) (x90_29 : Bool),v90 = .bool x90_29 ∧ Aside0 (wigwagref17_Same.j3 kq x6_2 x7_3 x90_29 a0_0 l0_1 l0_2 a0_3 a0_4 a1_0 l1_1 l1_2 a1_3 a1_4 = some r) ∧ Aside0 (kq ≤ k3) ∧ Aside0 (wc.heap[gb281]? = some (.cells #[.int .u64 a0_0,(.slice (some ad284) l0_1.length c0_1),(.slice A0_2 l0_2.length c0_2),.bool a0_3,.int .u64 a0_4] 28 (0,0))) ∧ Aside0 (wc.heap[gb282]? = some (.cells #[.int .u64 a1_0,(.slice A1_1 l1_1.length c1_1),(.slice A1_2 l1_2.length c1_2),.bool a1_3,.int .u64 a1_4] 28 (0,0))) ∧ Aside0 (Below w.heap.size w wc))
             case first =>
              have H:=HC30.out
              clear HC30
              by_cases c33 : (IntKind.u64.wrap (x7_3 - a0_0)) ≥ (IntKind.u64.wrap ((l0_2.length : Int)))
              ·rw [if_pos c33] at H
               have c33b0 : decide ((IntKind.u64.wrap ((l0_2.length : Int))) ≤ (IntKind.u64.wrap (x7_3 - a0_0))) = true:=decide_eq_true c33
               clear c33
               (first | rw [c33b0] | (simp only [i64_w,i32_w];rw [c33b0]) | skip)
               have H':=Aside0.mk H
               clear H
               have hnb34:=NB281_282.out
               have hnc34:=NB282_281.out
               have hcz35_0 : wr.cell? ⟨gb281,0,none⟩ = some (.int .u64 a0_0):=(blk_cell BK281.out 0).trans rfl
               have hcz35_1 : wr.cell? ⟨gb281,1,none⟩ = some (.slice (some ad284) l0_1.length c0_1):=(blk_cell BK281.out 1).trans rfl
               have hcz35_2 : wr.cell? ⟨gb281,2,none⟩ = some (.slice A0_2 l0_2.length c0_2):=(blk_cell BK281.out 2).trans rfl
               have hcz35_3 : wr.cell? ⟨gb281,3,none⟩ = some (.bool a0_3):=(blk_cell BK281.out 3).trans rfl
               have hcz35_4 : wr.cell? ⟨gb281,4,none⟩ = some (.int .u64 a0_4):=(blk_cell BK281.out 4).trans rfl
               have hfz35_0:=blk_frozen BK281.out 0
               have hfz35_1:=blk_frozen BK281.out 1
               have hfz35_2:=blk_frozen BK281.out 2
               have hfz35_3:=blk_frozen BK281.out 3
               have hfz35_4:=blk_frozen BK281.out 4
               go_wp2
               repeat (go_quiet (fail);try go_wp2)
               go_meet
               case rel => exact ⟨_,(true),(by first | rfl | (simp;done) | (simp [*];done)),H',⟨by have:=HJ3.out;have:=HK2.out;have:=HK3.out;first | omega | exact Nat.le_refl _⟩,⟨by (with_reducible repeat (first | refine blk_drewN ?_ _ | refine blk_drew ?_ | refine blk_alloc ?_ _));exact BK281.out⟩,⟨by (with_reducible repeat (first | refine blk_drewN ?_ _ | refine blk_drew ?_ | refine blk_alloc ?_ _));exact BK282.out⟩,⟨by repeat (first | (with_reducible first | exact HB.out | apply below_alloc | apply pw_below_drewN | apply below_drew1 | refine below_set ?_ GE281.out | refine below_set ?_ GE282.out) | exact HB.out)⟩⟩
              ·rw [if_neg c33] at H
               have c33b0 : decide ((IntKind.u64.wrap ((l0_2.length : Int))) ≤ (IntKind.u64.wrap (x7_3 - a0_0))) = false:=decide_eq_false c33
               clear c33
               (first | rw [c33b0] | (simp only [i64_w,i32_w];rw [c33b0]) | skip)
               by_cases c36 : (IntKind.u64.wrap (x7_3 - a0_0)) ≥ (IntKind.u64.wrap ((l1_2.length : Int)))
               ·rw [if_pos c36] at H
                have c36b0 : decide ((IntKind.u64.wrap ((l1_2.length : Int))) ≤ (IntKind.u64.wrap (x7_3 - a0_0))) = true:=decide_eq_true c36
                clear c36
                have H':=Aside0.mk H
                clear H
                have hnb37:=NB281_282.out
                have hnc37:=NB282_281.out
                have hcz38_0 : wr.cell? ⟨gb281,0,none⟩ = some (.int .u64 a0_0):=(blk_cell BK281.out 0).trans rfl
                have hcz38_1 : wr.cell? ⟨gb281,1,none⟩ = some (.slice (some ad284) l0_1.length c0_1):=(blk_cell BK281.out 1).trans rfl
                have hcz38_2 : wr.cell? ⟨gb281,2,none⟩ = some (.slice A0_2 l0_2.length c0_2):=(blk_cell BK281.out 2).trans rfl
                have hcz38_3 : wr.cell? ⟨gb281,3,none⟩ = some (.bool a0_3):=(blk_cell BK281.out 3).trans rfl
                have hcz38_4 : wr.cell? ⟨gb281,4,none⟩ = some (.int .u64 a0_4):=(blk_cell BK281.out 4).trans rfl
                have hfz38_0:=blk_frozen BK281.out 0
                have hfz38_1:=blk_frozen BK281.out 1
                have hfz38_2:=blk_frozen BK281.out 2
                have hfz38_3:=blk_frozen BK281.out 3
                have hfz38_4:=blk_frozen BK281.out 4
                have hcz39_0 : wr.cell? ⟨gb282,0,none⟩ = some (.int .u64 a1_0):=(blk_cell BK282.out 0).trans rfl
                have hcz39_1 : wr.cell? ⟨gb282,1,none⟩ = some (.slice A1_1 l1_1.length c1_1):=(blk_cell BK282.out 1).trans rfl
                have hcz39_2 : wr.cell? ⟨gb282,2,none⟩ = some (.slice A1_2 l1_2.length c1_2):=(blk_cell BK282.out 2).trans rfl
                have hcz39_3 : wr.cell? ⟨gb282,3,none⟩ = some (.bool a1_3):=(blk_cell BK282.out 3).trans rfl
                have hcz39_4 : wr.cell? ⟨gb282,4,none⟩ = some (.int .u64 a1_4):=(blk_cell BK282.out 4).trans rfl
                have hfz39_0:=blk_frozen BK282.out 0
                have hfz39_1:=blk_frozen BK282.out 1
                have hfz39_2:=blk_frozen BK282.out 2
                have hfz39_3:=blk_frozen BK282.out 3
                have hfz39_4:=blk_frozen BK282.out 4
                go_wp2
                repeat (go_quiet (fail);try go_wp2)
                go_meet
                case rel => exact ⟨_,(true),(by first | rfl | (simp;done) | (simp [*];done)),H',⟨by have:=HJ3.out;have:=HK2.out;have:=HK3.out;first | omega | exact Nat.le_refl _⟩,⟨by (with_reducible repeat (first | refine blk_drewN ?_ _ | refine blk_drew ?_ | refine blk_alloc ?_ _));exact BK281.out⟩,⟨by (with_reducible repeat (first | refine blk_drewN ?_ _ | refine blk_drew ?_ | refine blk_alloc ?_ _));exact BK282.out⟩,⟨by repeat (first | (with_reducible first | exact HB.out | apply below_alloc | apply pw_below_drewN | apply below_drew1 | refine below_set ?_ GE281.out | refine below_set ?_ GE282.out) | exact HB.out)⟩⟩
               ·rw [if_neg c36] at H
                have c36b0 : decide ((IntKind.u64.wrap ((l1_2.length : Int))) ≤ (IntKind.u64.wrap (x7_3 - a0_0))) = false:=decide_eq_false c36
                clear c36
                obtain ⟨ji40,hji40⟩ : ∃ j_ : Int,(IntKind.u64.wrap (x7_3 - a0_0)) = j_:=⟨_,rfl⟩
                replace H : (if 0 ≤ (ji40) then (if (ji40) < (l0_2.length : Int) then (if (ji40) < (l1_2.length : Int) then (wigwagref17_Same.j3 k3 x6_2 x7_3 ((rd l0_2 (ji40)) != (rd l1_2 (ji40))) a0_0 l0_1 l0_2 a0_3 a0_4 a1_0 l1_1 l1_2 a1_3 a1_4) else (none)) else (none)) else (none)) = some r:=by first | (rw [hji40] at H;exact H) | (simp only [hji40] at H ⊢;exact H)
                (try rw [hji40] at c33b0)
                (try rw [hji40] at c36b0)
                by_cases c41 : 0 ≤ (ji40)
                ·rw [if_pos c41] at H
                 have c41b0 : decide (0 ≤ (ji40)) = true:=decide_eq_true c41
                 clear c41
                 by_cases c42 : (ji40) < (l0_2.length : Int)
                 ·rw [if_pos c42] at H
                  have c42b0 : decide ((ji40) < (l0_2.length : Int)) = true:=decide_eq_true c42
                  clear c42
                  by_cases c43 : (ji40) < (l1_2.length : Int)
                  ·rw [if_pos c43] at H
                   have c43b0 : decide ((ji40) < (l1_2.length : Int)) = true:=decide_eq_true c43
                   clear c43
                   have H':=Aside0.mk H
                   clear H
                   have hnb44:=NB281_282.out
                   have hnc44:=NB282_281.out
                   have hcz45_0 : wr.cell? ⟨gb281,0,none⟩ = some (.int .u64 a0_0):=(blk_cell BK281.out 0).trans rfl
                   have hcz45_1 : wr.cell? ⟨gb281,1,none⟩ = some (.slice (some ad284) l0_1.length c0_1):=(blk_cell BK281.out 1).trans rfl
                   have hcz45_2 : wr.cell? ⟨gb281,2,none⟩ = some (.slice A0_2 l0_2.length c0_2):=(blk_cell BK281.out 2).trans rfl
                   have hcz45_3 : wr.cell? ⟨gb281,3,none⟩ = some (.bool a0_3):=(blk_cell BK281.out 3).trans rfl
                   have hcz45_4 : wr.cell? ⟨gb281,4,none⟩ = some (.int .u64 a0_4):=(blk_cell BK281.out 4).trans rfl
                   have hfz45_0:=blk_frozen BK281.out 0
                   have hfz45_1:=blk_frozen BK281.out 1
                   have hfz45_2:=blk_frozen BK281.out 2
                   have hfz45_3:=blk_frozen BK281.out 3
                   have hfz45_4:=blk_frozen BK281.out 4
                   have hcz46_0 : wr.cell? ⟨gb282,0,none⟩ = some (.int .u64 a1_0):=(blk_cell BK282.out 0).trans rfl
                   have hcz46_1 : wr.cell? ⟨gb282,1,none⟩ = some (.slice A1_1 l1_1.length c1_1):=(blk_cell BK282.out 1).trans rfl
                   have hcz46_2 : wr.cell? ⟨gb282,2,none⟩ = some (.slice A1_2 l1_2.length c1_2):=(blk_cell BK282.out 2).trans rfl
                   have hcz46_3 : wr.cell? ⟨gb282,3,none⟩ = some (.bool a1_3):=(blk_cell BK282.out 3).trans rfl
                   have hcz46_4 : wr.cell? ⟨gb282,4,none⟩ = some (.int .u64 a1_4):=(blk_cell BK282.out 4).trans rfl
                   have hfz46_0:=blk_frozen BK282.out 0
                   have hfz46_1:=blk_frozen BK282.out 1
                   have hfz46_2:=blk_frozen BK282.out 2
                   have hfz46_3:=blk_frozen BK282.out 3
                   have hfz46_4:=blk_frozen BK282.out 4
                   have p286 : 0 ≤ ((ji40) : Int):=of_decide_eq_true (by first | (with_reducible assumption) | assumption)
                   have q286 : (ji40) < (l0_2.length : Int):=of_decide_eq_true (by first | (with_reducible assumption) | assumption)
                   obtain ⟨ad286,e286,hx286_0⟩:=Kd.at_int HR0_2.out (ji40) p286 q286
                   cases e286
                   replace hx286_0:=(HB.out.cell (World.block_lt_of_cell? w _ hx286_0)).trans hx286_0
                   replace p286:=eq_true p286
                   replace q286:=eq_true q286
                   have p287 : 0 ≤ ((ji40) : Int):=of_decide_eq_true (by first | (with_reducible assumption) | assumption)
                   have q287 : (ji40) < (l1_2.length : Int):=of_decide_eq_true (by first | (with_reducible assumption) | assumption)
                   obtain ⟨ad287,e287,hx287_0⟩:=Kd.at_int HR1_2.out (ji40) p287 q287
                   cases e287
                   replace hx287_0:=(HB.out.cell (World.block_lt_of_cell? w _ hx287_0)).trans hx287_0
                   replace p287:=eq_true p287
                   replace q287:=eq_true q287
                   go_wp2
                   repeat (go_quiet (fail);try go_wp2)
                   (try simp only [← hji40])
                   go_meet
                   case rel => exact ⟨_,(((rd l0_2 (ji40)) != (rd l1_2 (ji40)))),(by first | rfl | (simp;done) | (simp only [← hji40] <;> (first | rfl | (simp;done))) | (simp [*];done) | (simp only [← hji40];congr 1;unfold mn mx;omega) | (simp only [← hji40];congr 1;unfold mn;omega) | (simp only [← hji40];congr 1;unfold mx;omega)),H',⟨by have:=HJ3.out;have:=HK2.out;have:=HK3.out;first | omega | exact Nat.le_refl _⟩,⟨by (with_reducible repeat (first | refine blk_drewN ?_ _ | refine blk_drew ?_ | refine blk_alloc ?_ _));exact BK281.out⟩,⟨by (with_reducible repeat (first | refine blk_drewN ?_ _ | refine blk_drew ?_ | refine blk_alloc ?_ _));exact BK282.out⟩,⟨by repeat (first | (with_reducible first | exact HB.out | apply below_alloc | apply pw_below_drewN | apply below_drew1 | refine below_set ?_ GE281.out | refine below_set ?_ GE282.out) | exact HB.out)⟩⟩
                  ·rw [if_neg c43] at H
                   exact absurd H (by simp)
                 ·rw [if_neg c42] at H
                  exact absurd H (by simp)
                ·rw [if_neg c41] at H
                 exact absurd H (by simp)
             case rest =>
              clear HC30
              try clear c1
              try clear c2
              try clear p2
              try clear q2
              try clear hx2
              try clear c3
              try clear c4
              try clear c7
              try clear c10
              try clear c11
              try clear c11b0
              try clear c11b1
              try clear c12
              try clear c12b0
              try clear c12b1
              try clear c12b2
              try clear c13
              try clear c14
              try clear c16
              try clear c19
              try clear c22
              try clear c23
              try clear c23b0
              try clear c24
              try clear c24b0
              try clear c25
              try clear c27
              try clear c27b0
              try clear c28
              try clear c28b0
              try clear p28
              try clear q28
              try clear hx28
              try clear c29
              try clear c29b0
              try clear c31
              try clear c33
              try clear c33b0
              try clear c34
              try clear c36
              try clear c36b0
              try clear c37
              try clear c41
              try clear c41b0
              try clear c42
              try clear c42b0
              try clear c43
              try clear c43b0
              try clear c44
              try clear hcz14_0
              try clear hcz14_1
              try clear hcz14_2
              try clear hcz14_3
              try clear hcz14_4
              try clear hcz15_0
              try clear hcz15_1
              try clear hcz15_2
              try clear hcz15_3
              try clear hcz15_4
              try clear hcz17_0
              try clear hcz17_1
              try clear hcz17_2
              try clear hcz17_3
              try clear hcz17_4
              try clear hcz18_0
              try clear hcz18_1
              try clear hcz18_2
              try clear hcz18_3
              try clear hcz18_4
              try clear hcz20_0
              try clear hcz20_1
              try clear hcz20_2
              try clear hcz20_3
              try clear hcz20_4
              try clear hcz21_0
              try clear hcz21_1
              try clear hcz21_2
              try clear hcz21_3
              try clear hcz21_4
              try clear hcz26_0
              try clear hcz26_1
              try clear hcz26_2
              try clear hcz26_3
              try clear hcz26_4
              try clear hcz32_0
              try clear hcz32_1
              try clear hcz32_2
              try clear hcz32_3
              try clear hcz32_4
              try clear hcz35_0
              try clear hcz35_1
              try clear hcz35_2
              try clear hcz35_3
              try clear hcz35_4
              try clear hcz38_0
              try clear hcz38_1
              try clear hcz38_2
              try clear hcz38_3
              try clear hcz38_4
              try clear hcz39_0
              try clear hcz39_1
              try clear hcz39_2
              try clear hcz39_3
              try clear hcz39_4
              try clear hcz45_0
              try clear hcz45_1
              try clear hcz45_2
              try clear hcz45_3
              try clear hcz45_4
              try clear hcz46_0
              try clear hcz46_1
              try clear hcz46_2
              try clear hcz46_3
              try clear hcz46_4
              try clear hcz8_0
              try clear hcz8_1
              try clear hcz8_2
              try clear hcz8_3
              try clear hcz8_4
              try clear hcz9_0
              try clear hcz9_1
              try clear hcz9_2
              try clear hcz9_3
              try clear hcz9_4
              try clear hfz14_0
              try clear hfz14_1
              try clear hfz14_2
              try clear hfz14_3
              try clear hfz14_4
              try clear hfz15_0
              try clear hfz15_1
              try clear hfz15_2
              try clear hfz15_3
              try clear hfz15_4
              try clear hfz17_0
              try clear hfz17_1
              try clear hfz17_2
              try clear hfz17_3
              try clear hfz17_4
              try clear hfz18_0
              try clear hfz18_1
              try clear hfz18_2
              try clear hfz18_3
              try clear hfz18_4
              try clear hfz20_0
              try clear hfz20_1
              try clear hfz20_2
              try clear hfz20_3
              try clear hfz20_4
              try clear hfz21_0
              try clear hfz21_1
              try clear hfz21_2
              try clear hfz21_3
              try clear hfz21_4
              try clear hfz26_0
              try clear hfz26_1
              try clear hfz26_2
              try clear hfz26_3
              try clear hfz26_4
              try clear hfz32_0
              try clear hfz32_1
              try clear hfz32_2
              try clear hfz32_3
              try clear hfz32_4
              try clear hfz35_0
              try clear hfz35_1
              try clear hfz35_2
              try clear hfz35_3
              try clear hfz35_4
              try clear hfz38_0
              try clear hfz38_1
              try clear hfz38_2
              try clear hfz38_3
              try clear hfz38_4
              try clear hfz39_0
              try clear hfz39_1
              try clear hfz39_2
              try clear hfz39_3
              try clear hfz39_4
              try clear hfz45_0
              try clear hfz45_1
              try clear hfz45_2
              try clear hfz45_3
              try clear hfz45_4
              try clear hfz46_0
              try clear hfz46_1
              try clear hfz46_2
              try clear hfz46_3
              try clear hfz46_4
              try clear hfz8_0
              try clear hfz8_1
              try clear hfz8_2
              try clear hfz8_3
              try clear hfz8_4
              try clear hfz9_0
              try clear hfz9_1
              try clear hfz9_2
              try clear hfz9_3
              try clear hfz9_4
              try clear hx284_0
              try clear hx284_1
              try clear hx285_0
              try clear hx285_1
              try clear hx286_0
              try clear hx287_0
              try clear p2
              try clear p284
              try clear p285
              try clear p286
              try clear p287
              try clear q2
              try clear q284
              try clear q285
              try clear q286
              try clear q287
              obtain ⟨kq,x90_29,rfl,HA,HJ29,BK281,BK282,HB⟩:=hcut
              cases kq with
              | zero => exact absurd HA.out (by simp [wigwagref17_Same.j3])
              | succ kj29 =>
               have H:=HA.out
               clear HA
               simp only [wigwagref17_Same.j3] at H
               by_cases c47 : x90_29 = true
               ·subst c47
                have H1 : (some false) = some r:=by rw [if_pos rfl] at H;exact H
                clear H
                have H:=H1
                clear H1
                obtain rfl:=Option.some.inj H
                go_wp2
                repeat (go_quiet (fail);try go_wp2)
                go_ret
                exact ⟨by first | rfl | (simp [errW_none,errW_some] <;> rfl) | (simp [*,errW_none,errW_some] <;> rfl),by repeat (first | (with_reducible first | exact HB.out | apply below_alloc | apply pw_below_drewN | apply below_drew1 | refine below_set ?_ GE281.out | refine below_set ?_ GE282.out) | exact HB.out)⟩
               ·replace c47:=Bool.eq_false_iff.mpr c47
                subst c47
                have H1 : (wigwagref17_Same.l1 kj29 x6_2 (IntKind.u64.wrap (x7_3 + 1)) a0_0 l0_1 l0_2 a0_3 a0_4 a1_0 l1_1 l1_2 a1_3 a1_4) = some r:=by rw [if_neg (show ¬ (false = true) by decide)] at H;exact H
                clear H
                have H:=H1
                clear H1
                have H':=Aside0.mk H
                clear H
                go_wp2
                repeat (go_quiet (fail);try go_wp2)
                go_roundg kj29
                case measure => have:=HJ3.out;have:=HK2.out;have:=HK3.out;have:=HJ29.out;omega
                case rel => exact ⟨(IntKind.u64.wrap (x7_3 + 1)),(by first | rfl | (simp;done) | (simp [*];done)),H',⟨by have:=HJ3.out;have:=HK2.out;have:=HK3.out;have:=HJ29.out;omega⟩,⟨by (with_reducible repeat (first | refine blk_drewN ?_ _ | refine blk_drew ?_ | refine blk_alloc ?_ _));exact BK281.out⟩,⟨by (with_reducible repeat (first | refine blk_drewN ?_ _ | refine blk_drew ?_ | refine blk_alloc ?_ _));exact BK282.out⟩,⟨by repeat (first | (with_reducible first | exact HB.out | apply below_alloc | apply pw_below_drewN | apply below_drew1 | refine below_set ?_ GE281.out | refine below_set ?_ GE282.out) | exact HB.out)⟩⟩
            ·rw [if_neg c29] at H
             have c29b0 : decide (x7_3 < ((rd_T41 l0_1 x6_2).f1)) = false:=decide_eq_false c29
             clear c29
             have H':=Aside0.mk H
             clear H
             have hnb48:=NB281_282.out
             have hnc48:=NB282_281.out
             have hcz49_0 : wr.cell? ⟨gb281,0,none⟩ = some (.int .u64 a0_0):=(blk_cell BK281.out 0).trans rfl
             have hcz49_1 : wr.cell? ⟨gb281,1,none⟩ = some (.slice (some ad284) l0_1.length c0_1):=(blk_cell BK281.out 1).trans rfl
             have hcz49_2 : wr.cell? ⟨gb281,2,none⟩ = some (.slice A0_2 l0_2.length c0_2):=(blk_cell BK281.out 2).trans rfl
             have hcz49_3 : wr.cell? ⟨gb281,3,none⟩ = some (.bool a0_3):=(blk_cell BK281.out 3).trans rfl
             have hcz49_4 : wr.cell? ⟨gb281,4,none⟩ = some (.int .u64 a0_4):=(blk_cell BK281.out 4).trans rfl
             have hfz49_0:=blk_frozen BK281.out 0
             have hfz49_1:=blk_frozen BK281.out 1
             have hfz49_2:=blk_frozen BK281.out 2
             have hfz49_3:=blk_frozen BK281.out 3
             have hfz49_4:=blk_frozen BK281.out 4
             have p285 : 0 ≤ (x6_2 : Int):=of_decide_eq_true (by first | (with_reducible assumption) | assumption)
             have q285 : x6_2 < (l0_1.length : Int):=of_decide_eq_true (by first | (with_reducible assumption) | assumption)
             obtain ⟨ad285,e285,hx285_0,hx285_1⟩:=at_T41 HR0_1.out x6_2 p285 q285
             obtain rfl : ad284 = ad285:=(by injection e285)
             replace hx285_0:=(HB.out.cell (World.block_lt_of_cell? w _ hx285_0)).trans hx285_0
             replace hx285_1:=(HB.out.cell (World.block_lt_of_cell? w _ hx285_1)).trans hx285_1
             replace p285:=eq_true p285
             replace q285:=eq_true q285
             go_wp2
             repeat (go_quiet (fail);try go_wp2)
             go_roundg k3
             case measure => have:=HJ3.out;have:=HK2.out;have:=HK3.out;omega
             case rel => exact ⟨(wrap64 (x6_2 + 1)),(by first | rfl | (simp;done) | (simp [*];done)),H',⟨by have:=HJ3.out;have:=HK2.out;have:=HK3.out;omega⟩,⟨by (with_reducible repeat (first | refine blk_drewN ?_ _ | refine blk_drew ?_ | refine blk_alloc ?_ _));exact BK281.out⟩,⟨by (with_reducible repeat (first | refine blk_drewN ?_ _ | refine blk_drew ?_ | refine blk_alloc ?_ _));exact BK282.out⟩,⟨by repeat (first | (with_reducible first | exact HB.out | apply below_alloc | apply pw_below_drewN | apply below_drew1 | refine below_set ?_ GE281.out | refine below_set ?_ GE282.out) | exact HB.out)⟩⟩
           ·rw [if_neg c28] at H
            exact absurd H (by simp)
          ·rw [if_neg c27] at H
           exact absurd H (by simp)
       ·rw [if_neg c24] at H
        exact absurd H (by simp)
      ·rw [if_neg c23] at H
       have c23b0 : decide (x6_2 < (l0_1.length : Int)) = false:=decide_eq_false c23
       clear c23
       obtain rfl:=Option.some.inj H
       have hnb50:=NB281_282.out
       have hnc50:=NB282_281.out
       have hcz51_0 : wr.cell? ⟨gb281,0,none⟩ = some (.int .u64 a0_0):=(blk_cell BK281.out 0).trans rfl
       have hcz51_1 : wr.cell? ⟨gb281,1,none⟩ = some (.slice A0_1 l0_1.length c0_1):=(blk_cell BK281.out 1).trans rfl
       have hcz51_2 : wr.cell? ⟨gb281,2,none⟩ = some (.slice A0_2 l0_2.length c0_2):=(blk_cell BK281.out 2).trans rfl
       have hcz51_3 : wr.cell? ⟨gb281,3,none⟩ = some (.bool a0_3):=(blk_cell BK281.out 3).trans rfl
       have hcz51_4 : wr.cell? ⟨gb281,4,none⟩ = some (.int .u64 a0_4):=(blk_cell BK281.out 4).trans rfl
       have hfz51_0:=blk_frozen BK281.out 0
       have hfz51_1:=blk_frozen BK281.out 1
       have hfz51_2:=blk_frozen BK281.out 2
       have hfz51_3:=blk_frozen BK281.out 3
       have hfz51_4:=blk_frozen BK281.out 4
       go_wp2
       repeat (go_quiet (fail);try go_wp2)
       go_ret
       exact ⟨by first | rfl | (simp [errW_none,errW_some] <;> rfl) | (simp [*,errW_none,errW_some] <;> rfl),by repeat (first | (with_reducible first | exact HB.out | apply below_alloc | apply pw_below_drewN | apply below_drew1 | refine below_set ?_ GE281.out | refine below_set ?_ GE282.out) | exact HB.out)⟩

end Go.Proofs.Ytndfddejdfnleaa.P
