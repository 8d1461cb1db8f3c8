-- Printed for this claim by xprint.py of this session: contracts of this session's own stand in for what the print does not take
import Derived.Test.YtgaccappklhojaaPx0
import Derived.Test.YtgaccappklhojaaPx2
import Derived.Test.YtgaccappklhojaaPx5
import Derived.Test.YtgaccappklhojaaPx6
import Derived.Test.YtgaccappklhojaaPx8
import Derived.Test.YtgaccappklhojaaPx9
import Derived.Test.YtgaccappklhojaaPx10
import Derived.Test.YtgaccappklhojaaPx13
namespace Go.Proofs.Ytgaccappklhojaa.P
open Go.RowKit Go.Proofs.YtgaccappklhojaaW.PrintWords Go.Proofs.YtgaccappklhojaaW.PrintLast Go.Proofs.YtgaccappklhojaaW.PrintMore
attribute [local go_sem] max2_int min2_int max_two min_two max_three min_three max_four min_four   -- for this text's walks alone
set_option linter.unusedVariables false
set_option linter.unusedSimpArgs false

/-! ### wigwaglaw07_SpanOwn: function 7 -/
mutual
def wigwaglaw07_SpanOwn.j0 : Nat → List (S25) → Int → Bool → Bool → Int → Int → Option (Bool)
 | 0,_,_,_,_,_,_ => none
 | k + 1,x0,x2,x7,x24,x306000,x306001 => if x24 = true then (some x7) else ((some (([] : List (S25)) : List (S25))).bind fun y309 => (if y309.length + x0.length < 8796093022208 then ((some (y309 ++ x0 : List (S25))).bind fun y312 => ((span_Add.f k y312 x306000 x306001).bind fun t315 => ((span_Cut.f y312 x306000 x306001).bind fun t318 => ((span_Last.f y312 x2).bind fun t321 => (wigwaglaw07_SpanOwn.l0 k x0 x7 y312 t315 t318 t321 0))))) else (none)))
def wigwaglaw07_SpanOwn.l0 : Nat → List (S25) → Bool → List (S25) → List (S25) → List (S25) → List (S25) → Int → Option (Bool)
 | 0,_,_,_,_,_,_,_ => none
 | k + 1,x0,x7,x8,x9,x10,x11,x12 => if x12 < (x9.length : Int) then (if 0 ≤ x12 then (wigwaglaw07_SpanOwn.l0 k x0 x7 x8 (x9.set (x12 : Int).toNat (⟨77,(rd_T25 x9 x12).f1⟩ : S25)) x10 x11 (wrap64 (x12 + 1))) else (none)) else (wigwaglaw07_SpanOwn.l1 k x0 x7 x8 x10 x11 0)
def wigwaglaw07_SpanOwn.l1 : Nat → List (S25) → Bool → List (S25) → List (S25) → List (S25) → Int → Option (Bool)
 | 0,_,_,_,_,_,_ => none
 | k + 1,x0,x7,x8,x10,x11,x13 => if x13 < (x10.length : Int) then (if 0 ≤ x13 then (wigwaglaw07_SpanOwn.l1 k x0 x7 x8 (x10.set (x13 : Int).toNat (⟨77,(rd_T25 x10 x13).f1⟩ : S25)) x11 (wrap64 (x13 + 1))) else (none)) else (wigwaglaw07_SpanOwn.l2 k x0 x7 x8 x11 0)
def wigwaglaw07_SpanOwn.l2 : Nat → List (S25) → Bool → List (S25) → List (S25) → Int → Option (Bool)
 | 0,_,_,_,_,_ => none
 | k + 1,x0,x7,x8,x11,x14 => if x14 < (x11.length : Int) then (if 0 ≤ x14 then (wigwaglaw07_SpanOwn.l2 k x0 x7 x8 (x11.set (x14 : Int).toNat (⟨77,(rd_T25 x11 x14).f1⟩ : S25)) (wrap64 (x14 + 1))) else (none)) else ((wigwagref07_Same.f k x8 x0).bind fun t327 => (if x7 = true then (some t327) else (some false)))
end
def wigwaglaw07_SpanOwn.f (k : Nat) (l0 : List (S25)) (a1_0 : Int) (a1_1 : Int) (a2 : Int) : Option (Bool):=(wigwaglaw07_awake.f k).bind fun t306 => ((wigwaglaw07_few.f l0).bind fun t307 => (if t307 = true then ((span_Check.f k l0).bind fun t308 => (wigwaglaw07_SpanOwn.j0 k l0 a2 t306 (!t308) a1_0 a1_1)) else (wigwaglaw07_SpanOwn.j0 k l0 a2 t306 true a1_0 a1_1)))
theorem wigwaglaw07_SpanOwn.mono_l : ∀ k,(∀ y0 y1 y2 y3 y4 y5,LeO (wigwaglaw07_SpanOwn.j0 k y0 y1 y2 y3 y4 y5) (wigwaglaw07_SpanOwn.j0 (k + 1) y0 y1 y2 y3 y4 y5)) ∧ (∀ y0 y1 y2 y3 y4 y5 y6,LeO (wigwaglaw07_SpanOwn.l0 k y0 y1 y2 y3 y4 y5 y6) (wigwaglaw07_SpanOwn.l0 (k + 1) y0 y1 y2 y3 y4 y5 y6)) ∧ (∀ y0 y1 y2 y3 y4 y5,LeO (wigwaglaw07_SpanOwn.l1 k y0 y1 y2 y3 y4 y5) (wigwaglaw07_SpanOwn.l1 (k + 1) y0 y1 y2 y3 y4 y5)) ∧ (∀ y0 y1 y2 y3 y4,LeO (wigwaglaw07_SpanOwn.l2 k y0 y1 y2 y3 y4) (wigwaglaw07_SpanOwn.l2 (k + 1) y0 y1 y2 y3 y4))
 | 0 => ⟨fun _ _ _ _ _ _ r h => by simp [wigwaglaw07_SpanOwn.j0] at h,fun _ _ _ _ _ _ _ r h => by simp [wigwaglaw07_SpanOwn.l0] at h,fun _ _ _ _ _ _ r h => by simp [wigwaglaw07_SpanOwn.l1] at h,fun _ _ _ _ _ r h => by simp [wigwaglaw07_SpanOwn.l2] at h⟩
 | k + 1 => by
  obtain ⟨ih0,ih1,ih2,ih3⟩:=wigwaglaw07_SpanOwn.mono_l k
  refine ⟨?_,?_,?_,?_⟩
  ·intro y0 y1 y2 y3 y4 y5
   unfold wigwaglaw07_SpanOwn.j0
   repeat' first
   | (with_reducible exact ih0 _ _ _ _ _ _)
   | (with_reducible exact ih1 _ _ _ _ _ _ _)
   | (with_reducible exact ih2 _ _ _ _ _ _)
   | (with_reducible exact ih3 _ _ _ _ _)
   | (with_reducible exact span_Add.mono _ _ _ _)
   | (with_reducible exact span_Check.mono _ _)
   | (with_reducible exact wigwaglaw07_awake.mono _)
   | (with_reducible exact wigwagref07_Same.mono _ _ _)
   | (with_reducible exact LeO.refl _)
   | (with_reducible exact LeO.none _)
   | (with_reducible refine LeO.ite ?_ ?_)
   | (with_reducible refine LeO.bind ?_ (fun _ => ?_))
   | exact ih0 _ _ _ _ _ _
   | exact ih1 _ _ _ _ _ _ _
   | exact ih2 _ _ _ _ _ _
   | exact ih3 _ _ _ _ _
   | exact span_Add.mono _ _ _ _
   | exact span_Check.mono _ _
   | exact wigwaglaw07_awake.mono _
   | exact wigwagref07_Same.mono _ _ _
   | exact LeO.none _
   | refine LeO.ite ?_ ?_
   | refine LeO.bind ?_ (fun _ => ?_)
  ·intro y0 y1 y2 y3 y4 y5 y6
   unfold wigwaglaw07_SpanOwn.l0
   repeat' first
   | (with_reducible exact ih0 _ _ _ _ _ _)
   | (with_reducible exact ih1 _ _ _ _ _ _ _)
   | (with_reducible exact ih2 _ _ _ _ _ _)
   | (with_reducible exact ih3 _ _ _ _ _)
   | (with_reducible exact span_Add.mono _ _ _ _)
   | (with_reducible exact span_Check.mono _ _)
   | (with_reducible exact wigwaglaw07_awake.mono _)
   | (with_reducible exact wigwagref07_Same.mono _ _ _)
   | (with_reducible exact LeO.refl _)
   | (with_reducible exact LeO.none _)
   | (with_reducible refine LeO.ite ?_ ?_)
   | (with_reducible refine LeO.bind ?_ (fun _ => ?_))
   | exact ih0 _ _ _ _ _ _
   | exact ih1 _ _ _ _ _ _ _
   | exact ih2 _ _ _ _ _ _
   | exact ih3 _ _ _ _ _
   | exact span_Add.mono _ _ _ _
   | exact span_Check.mono _ _
   | exact wigwaglaw07_awake.mono _
   | exact wigwagref07_Same.mono _ _ _
   | exact LeO.none _
   | refine LeO.ite ?_ ?_
   | refine LeO.bind ?_ (fun _ => ?_)
  ·intro y0 y1 y2 y3 y4 y5
   unfold wigwaglaw07_SpanOwn.l1
   repeat' first
   | (with_reducible exact ih0 _ _ _ _ _ _)
   | (with_reducible exact ih1 _ _ _ _ _ _ _)
   | (with_reducible exact ih2 _ _ _ _ _ _)
   | (with_reducible exact ih3 _ _ _ _ _)
   | (with_reducible exact span_Add.mono _ _ _ _)
   | (with_reducible exact span_Check.mono _ _)
   | (with_reducible exact wigwaglaw07_awake.mono _)
   | (with_reducible exact wigwagref07_Same.mono _ _ _)
   | (with_reducible exact LeO.refl _)
   | (with_reducible exact LeO.none _)
   | (with_reducible refine LeO.ite ?_ ?_)
   | (with_reducible refine LeO.bind ?_ (fun _ => ?_))
   | exact ih0 _ _ _ _ _ _
   | exact ih1 _ _ _ _ _ _ _
   | exact ih2 _ _ _ _ _ _
   | exact ih3 _ _ _ _ _
   | exact span_Add.mono _ _ _ _
   | exact span_Check.mono _ _
   | exact wigwaglaw07_awake.mono _
   | exact wigwagref07_Same.mono _ _ _
   | exact LeO.none _
   | refine LeO.ite ?_ ?_
   | refine LeO.bind ?_ (fun _ => ?_)
  ·intro y0 y1 y2 y3 y4
   unfold wigwaglaw07_SpanOwn.l2
   repeat' first
   | (with_reducible exact ih0 _ _ _ _ _ _)
   | (with_reducible exact ih1 _ _ _ _ _ _ _)
   | (with_reducible exact ih2 _ _ _ _ _ _)
   | (with_reducible exact ih3 _ _ _ _ _)
   | (with_reducible exact span_Add.mono _ _ _ _)
   | (with_reducible exact span_Check.mono _ _)
   | (with_reducible exact wigwaglaw07_awake.mono _)
   | (with_reducible exact wigwagref07_Same.mono _ _ _)
   | (with_reducible exact LeO.refl _)
   | (with_reducible exact LeO.none _)
   | (with_reducible refine LeO.ite ?_ ?_)
   | (with_reducible refine LeO.bind ?_ (fun _ => ?_))
   | exact ih0 _ _ _ _ _ _
   | exact ih1 _ _ _ _ _ _ _
   | exact ih2 _ _ _ _ _ _
   | exact ih3 _ _ _ _ _
   | exact span_Add.mono _ _ _ _
   | exact span_Check.mono _ _
   | exact wigwaglaw07_awake.mono _
   | exact wigwagref07_Same.mono _ _ _
   | exact LeO.none _
   | refine LeO.ite ?_ ?_
   | refine LeO.bind ?_ (fun _ => ?_)
theorem wigwaglaw07_SpanOwn.mono : ∀ a0 a1 a2 a3 k,LeO (wigwaglaw07_SpanOwn.f k a0 a1 a2 a3) (wigwaglaw07_SpanOwn.f (k + 1) a0 a1 a2 a3):=by
 intro a0 a1 a2 a3 k
 obtain ⟨ih0,ih1,ih2,ih3⟩:=wigwaglaw07_SpanOwn.mono_l k
 unfold wigwaglaw07_SpanOwn.f
 repeat' first
   | (with_reducible exact ih0 _ _ _ _ _ _)
   | (with_reducible exact ih1 _ _ _ _ _ _ _)
   | (with_reducible exact ih2 _ _ _ _ _ _)
   | (with_reducible exact ih3 _ _ _ _ _)
   | (with_reducible exact span_Add.mono _ _ _ _)
   | (with_reducible exact span_Check.mono _ _)
   | (with_reducible exact wigwaglaw07_awake.mono _)
   | (with_reducible exact wigwagref07_Same.mono _ _ _)
   | (with_reducible exact LeO.refl _)
   | (with_reducible exact LeO.none _)
   | (with_reducible refine LeO.ite ?_ ?_)
   | (with_reducible refine LeO.bind ?_ (fun _ => ?_))
   | exact ih0 _ _ _ _ _ _
   | exact ih1 _ _ _ _ _ _ _
   | exact ih2 _ _ _ _ _ _
   | exact ih3 _ _ _ _ _
   | exact span_Add.mono _ _ _ _
   | exact span_Check.mono _ _
   | exact wigwaglaw07_awake.mono _
   | exact wigwagref07_Same.mono _ _ _
   | exact LeO.none _
   | refine LeO.ite ?_ ?_
   | refine LeO.bind ?_ (fun _ => ?_)
set_option maxHeartbeats 8000000 in
set_option maxRecDepth 100000 in
theorem wigwaglaw07_SpanOwn.calls (k : Nat) (A0 : Option Addr) (c0 : Nat) (l0 : List (S25)) (a1_0 : Int) (a1_1 : Int) (a2 : Int) (r : Bool) (w : World) (hr0 : Kd.C k25 w A0 l0.length l0) (hc0 : l0.length ≤ c0) (h : wigwaglaw07_SpanOwn.f k l0 a1_0 a1_1 a2 = some r) :
  Calls Try.prog 7 #[.slice A0 l0.length c0,.agg #[.int .u64 a1_0,.int .u64 a1_1],.int .i64 a2] w fun e w' => e = .returned (.bool r) ∧ Below w.heap.size w w':=by
 have hu25:=Try.underlying25
 have HR0:=Aside0.mk hr0
 have HC0:=Aside0.mk hc0
 clear hr0 hc0
 have HB:=Aside0.mk (Below.refl w.heap.size w)
 have H : ((wigwaglaw07_awake.f k).bind fun t306 => ((wigwaglaw07_few.f l0).bind fun t307 => (if t307 = true then ((span_Check.f k l0).bind fun t308 => (wigwaglaw07_SpanOwn.j0 k l0 a2 t306 (!t308) a1_0 a1_1)) else (wigwaglaw07_SpanOwn.j0 k l0 a2 t306 true a1_0 a1_1)))) = some r:=h
 clear h
 replace H:=Option.bind_eq_some_iff.mp H
 obtain ⟨t306,A40,H⟩:=H
 replace H : ((wigwaglaw07_few.f l0).bind fun t307 => (if t307 = true then ((span_Check.f k l0).bind fun t308 => (wigwaglaw07_SpanOwn.j0 k l0 a2 t306 (!t308) a1_0 a1_1)) else (wigwaglaw07_SpanOwn.j0 k l0 a2 t306 true a1_0 a1_1))) = some r:=H
 have A4:=Aside0.mk A40
 clear A40
 have HC5:=Aside0.mk H
 clear H
 go_enter Try.func7,Try.ntmps7
 go_upto_region 2 with (first | ((with_reducible refine gate_dst (N:=4) rfl ?_);refine box_event ?hg (N:=4) ?hd (cs:=#[.int .u64 a1_0,.int .u64 a1_1]) (t:=25) ?hr ?_;(case hd => rfl);(case hg => rfl);(case hr => first | (go_simp;done) | (go_simp;rfl));intro gb305 hg w6 hbox hb;have n0_:=Aside0.mk (below_step (by repeat (first | (with_reducible first | exact HB.out | apply below_alloc | apply pw_below_drewN | apply below_drew1) | exact HB.out)) hb);have n1_:=Aside0.mk (hbox);have n2_:=Aside0.mk ((by rw [hg];exact (below_size (by repeat (first | (with_reducible first | exact HB.out | apply below_alloc | apply pw_below_drewN | apply below_drew1) | exact HB.out))) : w.heap.size ≤ gb305));have n3_:=Aside0.mk ((by rw [hg];exact (below_size (by repeat (first | (with_reducible first | exact HB.out | apply below_alloc | apply pw_below_drewN | apply below_drew1) | exact HB.out))) : w.heap.size ≤ gb305));clear HB;have HB:=n0_;have BK305:=n1_;have GW305:=n2_;have GE305:=n3_;clear n0_ n1_ n2_ n3_;clear hb hbox hg) | ((with_reducible refine gate_callee (f:=10) rfl ?_);refine goesL_ (some 16) rfl rfl Try.func10 (by kernel_rfl) rfl #[] rfl (by (try simp only [List.map_toArray,List.map_cons,List.map_nil]);first | done | rfl | (simp only [List.length_drop,List.length_take];rfl)) ?_;(with_reducible refine (wigwaglaw07_awake.calls k  t306 _ A4.out).mono ?_);rintro e w7 ⟨rfl,hb⟩;refine ⟨_,rfl,?_⟩;have n0_:=Aside0.mk (blk_below (g:=gb305) (o:=.cells #[.int .u64 a1_0,.int .u64 a1_1] 25 (0,0)) (by (with_reducible repeat (first | refine blk_drewN ?_ _ | refine blk_drew ?_ | refine blk_alloc ?_ _));exact BK305.out) hb);have n1_:=Aside0.mk (below_step (by repeat (first | (with_reducible first | exact HB.out | apply below_alloc | apply pw_below_drewN | apply below_drew1 | refine below_set ?_ GE305.out) | exact HB.out)) hb);clear BK305;clear HB;have BK305:=n0_;have HB:=n1_;clear n0_ n1_;(try clear hb);(try clear hb2);(try clear hk);(try clear hi)))
 (try simp only [Act.put,List.setIfInBounds_toArray,List.set_cons_zero,List.set_cons_succ])
 go_cut [24] (fun v24 wc => ∃ (kq : Nat) (x24_4 : Bool),v24 = .bool x24_4 ∧ Aside0 (wigwaglaw07_SpanOwn.j0 kq l0 a2 t306 x24_4 a1_0 a1_1 = some r) ∧ Aside0 (kq ≤ k) ∧ Aside0 (wc.heap[gb305]? = some (.cells #[.int .u64 a1_0,.int .u64 a1_1] 25 (0,0))) ∧ Aside0 (Below w.heap.size w wc))
 case first =>
  have H:=HC5.out
  clear HC5
  replace H:=Option.bind_eq_some_iff.mp H
  obtain ⟨t307,A80,H⟩:=H
  replace H : (if t307 = true then ((span_Check.f k l0).bind fun t308 => (wigwaglaw07_SpanOwn.j0 k l0 a2 t306 (!t308) a1_0 a1_1)) else (wigwaglaw07_SpanOwn.j0 k l0 a2 t306 true a1_0 a1_1)) = some r:=H
  have A8:=Aside0.mk A80
  clear A80
  by_cases c9 : t307 = true
  ·subst c9
   have H1 : ((span_Check.f k l0).bind fun t308 => (wigwaglaw07_SpanOwn.j0 k l0 a2 t306 (!t308) a1_0 a1_1)) = some r:=by rw [if_pos rfl] at H;exact H
   clear H
   have H:=H1
   clear H1
   replace H:=Option.bind_eq_some_iff.mp H
   obtain ⟨t308,A100,H⟩:=H
   replace H : (wigwaglaw07_SpanOwn.j0 k l0 a2 t306 (!t308) a1_0 a1_1) = some r:=H
   have A10:=Aside0.mk A100
   clear A100
   have H':=Aside0.mk H
   clear H
   go_wp2_with (first | ((with_reducible refine gate_callee (f:=11) rfl ?_);refine goesL_ (some 18) rfl rfl Try.func11 (by kernel_rfl) rfl #[.slice A0 l0.length c0] rfl (by (try simp only [List.map_toArray,List.map_cons,List.map_nil]);first | done | rfl | (simp only [List.length_drop,List.length_take];rfl)) ?_;(with_reducible refine (wigwaglaw07_few.calls _ _ l0 true _ ?side1 ?side2 A8.out).mono ?_);(case side1 => repeat (first | exact (Kd.C_below HR0.out HB.out) | (with_reducible refine Kd.C_alloc ?_ _) | (with_reducible refine Kd.C_drewN ?_ _) | (with_reducible refine Kd.C_drew ?_)));(case side2 => exact HC0.out);rintro e w' ⟨rfl,⟨nd,rfl⟩⟩;refine ⟨_,rfl,?_⟩) | (go_at_call 12;(with_reducible refine (span_Check.calls k _ _ l0 t308 _ ?side1 ?side2 A10.out).mono ?_);(case side1 => repeat (first | exact (Kd.C_below HR0.out (by repeat (first | (with_reducible first | exact HB.out | apply below_alloc | apply pw_below_drewN | apply below_drew1 | refine below_set ?_ GE305.out) | exact HB.out))) | (with_reducible refine Kd.C_alloc ?_ _) | (with_reducible refine Kd.C_drewN ?_ _) | (with_reducible refine Kd.C_drew ?_)));(case side2 => exact HC0.out);rintro e w11 ⟨rfl,hb⟩;have n0_:=Aside0.mk (blk_below (g:=gb305) (o:=.cells #[.int .u64 a1_0,.int .u64 a1_1] 25 (0,0)) (by (with_reducible repeat (first | refine blk_drewN ?_ _ | refine blk_drew ?_ | refine blk_alloc ?_ _));exact BK305.out) hb);have n1_:=Aside0.mk (below_step (by repeat (first | (with_reducible first | exact HB.out | apply below_alloc | apply pw_below_drewN | apply below_drew1 | refine below_set ?_ GE305.out) | exact HB.out)) hb);clear BK305;clear HB;have BK305:=n0_;have HB:=n1_;clear n0_ n1_;(try clear hb);(try clear hb2);(try clear hk);(try clear hi)))
   go_meet
   case rel => exact ⟨_,(!t308),(by first | rfl | (simp;done) | (simp [*];done)),H',⟨by first | omega | exact Nat.le_refl _⟩,⟨by (with_reducible repeat (first | refine blk_drewN ?_ _ | refine blk_drew ?_ | refine blk_alloc ?_ _));exact BK305.out⟩,⟨by repeat (first | (with_reducible first | exact HB.out | apply below_alloc | apply pw_below_drewN | apply below_drew1 | refine below_set ?_ GE305.out) | exact HB.out)⟩⟩
  ·replace c9:=Bool.eq_false_iff.mpr c9
   subst c9
   have H1 : (wigwaglaw07_SpanOwn.j0 k l0 a2 t306 true a1_0 a1_1) = some r:=by rw [if_neg (show ¬ (false = true) by decide)] at H;exact H
   clear H
   have H:=H1
   clear H1
   have H':=Aside0.mk H
   clear H
   go_wp2_with (first | ((with_reducible refine gate_callee (f:=11) rfl ?_);refine goesL_ (some 18) rfl rfl Try.func11 (by kernel_rfl) rfl #[.slice A0 l0.length c0] rfl (by (try simp only [List.map_toArray,List.map_cons,List.map_nil]);first | done | rfl | (simp only [List.length_drop,List.length_take];rfl)) ?_;(with_reducible refine (wigwaglaw07_few.calls _ _ l0 false _ ?side1 ?side2 A8.out).mono ?_);(case side1 => repeat (first | exact (Kd.C_below HR0.out HB.out) | (with_reducible refine Kd.C_alloc ?_ _) | (with_reducible refine Kd.C_drewN ?_ _) | (with_reducible refine Kd.C_drew ?_)));(case side2 => exact HC0.out);rintro e w' ⟨rfl,⟨nd,rfl⟩⟩;refine ⟨_,rfl,?_⟩))
   go_meet
   case rel => exact ⟨_,(true),(by first | rfl | (simp;done) | (simp [*];done)),H',⟨by first | omega | exact Nat.le_refl _⟩,⟨by (with_reducible repeat (first | refine blk_drewN ?_ _ | refine blk_drew ?_ | refine blk_alloc ?_ _));exact BK305.out⟩,⟨by repeat (first | (with_reducible first | exact HB.out | apply below_alloc | apply pw_below_drewN | apply below_drew1 | refine below_set ?_ GE305.out) | exact HB.out)⟩⟩
 case rest =>
  clear HC5
  try clear c1
  try clear p2
  try clear c7
  try clear c9
  try clear c10
  try clear c11
  obtain ⟨kq,x24_4,rfl,HA,HJ4,BK305,HB⟩:=hcut
  cases kq with
  | zero => exact absurd HA.out (by simp [wigwaglaw07_SpanOwn.j0])
  | succ kj4 =>
   have H:=HA.out
   clear HA
   simp only [wigwaglaw07_SpanOwn.j0] at H
   by_cases c12 : x24_4 = true
   ·subst c12
    have H1 : (some t306) = some r:=by rw [if_pos rfl] at H;exact H
    clear H
    have H:=H1
    clear H1
    obtain rfl:=Option.some.inj H
    go_wp2
    go_ret
    exact ⟨by first | rfl | (simp [errW_none,errW_some] <;> rfl) | (simp [*,errW_none,errW_some] <;> rfl),by repeat (first | (with_reducible first | exact HB.out | apply below_alloc | apply pw_below_drewN | apply below_drew1 | refine below_set ?_ GE305.out) | exact HB.out)⟩
   ·replace c12:=Bool.eq_false_iff.mpr c12
    subst c12
    have H1 : ((some (([] : List (S25)) : List (S25))).bind fun y309 => (if y309.length + l0.length < 8796093022208 then ((some (y309 ++ l0 : List (S25))).bind fun y312 => ((span_Add.f kj4 y312 a1_0 a1_1).bind fun t315 => ((span_Cut.f y312 a1_0 a1_1).bind fun t318 => ((span_Last.f y312 a2).bind fun t321 => (wigwaglaw07_SpanOwn.l0 kj4 l0 t306 y312 t315 t318 t321 0))))) else (none))) = some r:=by rw [if_neg (show ¬ (false = true) by decide)] at H;exact H
    clear H
    have H:=H1
    clear H1
    obtain ⟨y309,hy309⟩ : ∃ y_ : List (S25),y_ = (([] : List (S25))):=⟨_,rfl⟩
    replace H : (if y309.length + l0.length < 8796093022208 then ((some (y309 ++ l0 : List (S25))).bind fun y312 => ((span_Add.f kj4 y312 a1_0 a1_1).bind fun t315 => ((span_Cut.f y312 a1_0 a1_1).bind fun t318 => ((span_Last.f y312 a2).bind fun t321 => (wigwaglaw07_SpanOwn.l0 kj4 l0 t306 y312 t315 t318 t321 0))))) else (none)) = some r:=by first | (rw [hy309];with_reducible exact H) | (have H2_:=(Option.bind_some _ _).symm.trans H;rw [hy309];with_reducible exact H2_) | (have H2_:=(Option.bind_some _ _).symm.trans H;with_reducible exact H2_) | with_reducible exact H | (rw [hy309];exact H) | exact H
    have Ny309:=Aside0.mk hy309
    clear hy309
    by_cases c13 : y309.length + l0.length < 8796093022208
    ·rw [if_pos c13] at H
     have LMc13:=Aside0.mk c13
     clear c13
     obtain ⟨y312,hy312⟩ : ∃ y_ : List (S25),y_ = (y309 ++ l0):=⟨_,rfl⟩
     replace H : ((span_Add.f kj4 y312 a1_0 a1_1).bind fun t315 => ((span_Cut.f y312 a1_0 a1_1).bind fun t318 => ((span_Last.f y312 a2).bind fun t321 => (wigwaglaw07_SpanOwn.l0 kj4 l0 t306 y312 t315 t318 t321 0)))) = some r:=by first | (rw [hy312];with_reducible exact H) | (have H2_:=(Option.bind_some _ _).symm.trans H;rw [hy312];with_reducible exact H2_) | (have H2_:=(Option.bind_some _ _).symm.trans H;with_reducible exact H2_) | with_reducible exact H | (rw [hy312];exact H) | exact H
     have Ny312:=Aside0.mk hy312
     clear hy312
     replace H:=Option.bind_eq_some_iff.mp H
     obtain ⟨t315,A140,H⟩:=H
     replace H : ((span_Cut.f y312 a1_0 a1_1).bind fun t318 => ((span_Last.f y312 a2).bind fun t321 => (wigwaglaw07_SpanOwn.l0 kj4 l0 t306 y312 t315 t318 t321 0))) = some r:=H
     have A14:=Aside0.mk A140
     clear A140
     replace H:=Option.bind_eq_some_iff.mp H
     obtain ⟨t318,A150,H⟩:=H
     replace H : ((span_Last.f y312 a2).bind fun t321 => (wigwaglaw07_SpanOwn.l0 kj4 l0 t306 y312 t315 t318 t321 0)) = some r:=H
     have A15:=Aside0.mk A150
     clear A150
     replace H:=Option.bind_eq_some_iff.mp H
     obtain ⟨t321,A160,H⟩:=H
     replace H : (wigwaglaw07_SpanOwn.l0 kj4 l0 t306 y312 t315 t318 t321 0) = some r:=H
     have A16:=Aside0.mk A160
     clear A160
     have H':=Aside0.mk H
     clear H
     go_wp2_with (first | ((with_reducible refine gate_dst (N:=26) rfl ?_);refine Kd.R_lit k25 _ 25 ?hg (N:=26) ?hd (xs:=([] : List (S25))) (inner:=[]) (ok:=fun _ => True) (okp:=fun _ => True) ?hr ?hp (fun _ hk => hk) trivial (Below.refl _ _) (Nat.le_refl _) (by simp) ?_;(case hd => rfl);(case hg => rfl);(case hr => first | (go_simp;done) | (go_simp;rfl));(case hp => exact (Reps.none _ _));intro v310 w17 ho18 hb hg_ hnew_;clear hg_ hnew_;(first | rw [← Ny309.out] at ho18 | (simp only [Int.reduceToNat] at ho18;rw [← Ny309.out] at ho18));have n0_:=Aside0.mk (Kd.R_lower (Kd.R_newB ho18 (g:=gb305) (o:=.cells #[.int .u64 a1_0,.int .u64 a1_1] 25 (0,0)) (by (with_reducible repeat (first | refine blk_drewN ?_ _ | refine blk_drew ?_ | refine blk_alloc ?_ _));exact BK305.out)) (below_size (by repeat (first | (with_reducible first | exact HB.out | apply below_alloc | apply pw_below_drewN | apply below_drew1 | refine below_set ?_ GE305.out) | exact HB.out))));have n1_:=Aside0.mk (blk_below (g:=gb305) (o:=.cells #[.int .u64 a1_0,.int .u64 a1_1] 25 (0,0)) (by (with_reducible repeat (first | refine blk_drewN ?_ _ | refine blk_drew ?_ | refine blk_alloc ?_ _));exact BK305.out) hb);have n2_:=Aside0.mk (below_step (by repeat (first | (with_reducible first | exact HB.out | apply below_alloc | apply pw_below_drewN | apply below_drew1 | refine below_set ?_ GE305.out) | exact HB.out)) hb);clear BK305;clear HB;have HO311:=n0_;have BK305:=n1_;have HB:=n2_;clear n0_ n1_ n2_;clear hb ho18) | ((with_reducible refine gate_builtin (b:=.append) (xs:=#[.tmp 26,.tmp 27]) rfl ?_);at_builtin;refine Kd.R_append_rows k25 (w0:=w) w.heap.size rfl (.tmp 26) (.tmp 27) 22 25 (.agg #[(.int .u64 0),(.int .u64 0)]) 16 rfl Try.underlying22 info25 rfl (by decide) (by omega) v310 y309 l0 _ _ _ (fun k_ => k_ ≠ gb305) (fun _ => False) rfl rfl ?aO ?aR (fun _ _ h => h) (fun _ h => h.elim) ?aF ?aB ?aS ?aL ?_;(case aR => repeat (first | exact (Kd.C_below HR0.out HB.out) | (with_reducible refine Kd.C_alloc ?_ _) | (with_reducible refine Kd.C_drewN ?_ _) | (with_reducible refine Kd.C_drew ?_)));(case aB => exact (by repeat (first | (with_reducible first | exact HB.out | apply below_alloc | apply pw_below_drewN | apply below_drew1 | refine below_set ?_ GE305.out) | exact HB.out)));(case aF => exact (fun k_ hk => Kd.freshB (g:=gb305) (o:=.cells #[.int .u64 a1_0,.int .u64 a1_1] 25 (0,0)) (by (with_reducible repeat (first | refine blk_drewN ?_ _ | refine blk_drew ?_ | refine blk_alloc ?_ _));exact BK305.out) k_ hk));(case aO => exact (by (with_reducible repeat (first | apply Kd.R_alloc | apply Kd.R_drewN | apply Kd.R_drew));exact Kd.R_mono HO311.out (fun _ hk => hk.2)));(case aS => exact (below_size (by repeat (first | (with_reducible first | exact HB.out | apply below_alloc | apply pw_below_drewN | apply below_drew1 | refine below_set ?_ GE305.out) | exact HB.out))));(case aL => have:=LMc13.out;omega);intro v313 w19 ho hb hg hat;rw [← Ny312.out] at ho;have n0_:=Aside0.mk (blk_grown (g:=gb305) (o:=.cells #[.int .u64 a1_0,.int .u64 a1_1] 25 (0,0)) (by (with_reducible repeat (first | refine blk_drewN ?_ _ | refine blk_drew ?_ | refine blk_alloc ?_ _));exact BK305.out) hg (Kd.R_away HO311.out (fun _ hk => hk.2)));have n1_:=Aside0.mk (hb);have n2_:=Aside0.mk (ho);clear BK305;clear HB;clear HO311;have BK305:=n0_;have HB:=n1_;have HO314:=n2_;clear n0_ n1_ n2_;clear ho hb hg hat;have hcz20_0 : w19.cell? ⟨gb305,0,none⟩ = some (.int .u64 a1_0):=(blk_cell BK305.out 0).trans rfl;have hcz20_1 : w19.cell? ⟨gb305,1,none⟩ = some (.int .u64 a1_1):=(blk_cell BK305.out 1).trans rfl;have hfz20_0:=blk_frozen BK305.out 0;have hfz20_1:=blk_frozen BK305.out 1;obtain ⟨Ao21,co21,eo21⟩:=Kd.R_slice HO314.out;subst eo21) | ((with_reducible refine gate_callee (f:=17) rfl ?_);refine goesL_ (some 31) rfl rfl Try.func17 (by kernel_rfl) rfl #[.slice Ao21 y312.length co21,.agg #[.int .u64 a1_0,.int .u64 a1_1]] rfl (by (try simp only [List.map_toArray,List.map_cons,List.map_nil]);first | done | rfl | (simp only [List.length_drop,List.length_take];rfl)) ?_;(with_reducible refine (span_Add.calls kj4 _ _ y312 a1_0 a1_1 t315 _ ?side1 ?side2 A14.out).mono ?_);(case side1 => repeat (first | exact (Kd.R_reads' HO314.out).2.2 | (with_reducible refine Kd.C_alloc ?_ _) | (with_reducible refine Kd.C_drewN ?_ _) | (with_reducible refine Kd.C_drew ?_)));(case side2 => exact (Kd.R_reads' HO314.out).2.1);rintro e w22 ⟨v316,rfl,ho0,hb⟩;refine ⟨_,rfl,?_⟩;have n0_:=Aside0.mk (Kd.R_elder' (by (with_reducible repeat (first | apply Kd.R_alloc | apply Kd.R_drewN | apply Kd.R_drew));exact HO314.out) (Kd.R_base ho0) hb);have n1_:=Aside0.mk (Kd.R_lower (Kd.R_newB (Kd.R_new' ho0 (Kd.R_lt (by (with_reducible repeat (first | apply Kd.R_alloc | apply Kd.R_drewN | apply Kd.R_drew));exact HO314.out))) (g:=gb305) (o:=.cells #[.int .u64 a1_0,.int .u64 a1_1] 25 (0,0)) (by (with_reducible repeat (first | refine blk_drewN ?_ _ | refine blk_drew ?_ | refine blk_alloc ?_ _));exact BK305.out)) (below_size (by repeat (first | (with_reducible first | exact HB.out | apply below_alloc | apply pw_below_drewN | apply below_drew1 | refine below_set ?_ GE305.out) | exact HB.out))));have n2_:=Aside0.mk (blk_below (g:=gb305) (o:=.cells #[.int .u64 a1_0,.int .u64 a1_1] 25 (0,0)) (by (with_reducible repeat (first | refine blk_drewN ?_ _ | refine blk_drew ?_ | refine blk_alloc ?_ _));exact BK305.out) hb);have n3_:=Aside0.mk (below_step (by repeat (first | (with_reducible first | exact HB.out | apply below_alloc | apply pw_below_drewN | apply below_drew1 | refine below_set ?_ GE305.out) | exact HB.out)) hb);clear HO314;clear BK305;clear HB;have HO314:=n0_;have HO317:=n1_;have BK305:=n2_;have HB:=n3_;clear n0_ n1_ n2_ n3_;(try clear hb);(try clear hb2);(try clear hk);(try clear hi);(try clear ho0);have hcz23_0 : w22.cell? ⟨gb305,0,none⟩ = some (.int .u64 a1_0):=(blk_cell BK305.out 0).trans rfl;have hcz23_1 : w22.cell? ⟨gb305,1,none⟩ = some (.int .u64 a1_1):=(blk_cell BK305.out 1).trans rfl;have hfz23_0:=blk_frozen BK305.out 0;have hfz23_1:=blk_frozen BK305.out 1) | ((with_reducible refine gate_callee (f:=19) rfl ?_);refine goesL_ (some 34) rfl rfl Try.func19 (by kernel_rfl) rfl #[.slice Ao21 y312.length co21,.agg #[.int .u64 a1_0,.int .u64 a1_1]] rfl (by (try simp only [List.map_toArray,List.map_cons,List.map_nil]);first | done | rfl | (simp only [List.length_drop,List.length_take];rfl)) ?_;(with_reducible refine (span_Cut.calls _ _ y312 a1_0 a1_1 t318 _ ?side1 ?side2 A15.out).mono ?_);(case side1 => repeat (first | exact (Kd.R_reads' HO314.out).2.2 | (with_reducible refine Kd.C_alloc ?_ _) | (with_reducible refine Kd.C_drewN ?_ _) | (with_reducible refine Kd.C_drew ?_)));(case side2 => exact (Kd.R_reads' HO314.out).2.1);rintro e w24 ⟨v319,rfl,ho0,hb⟩;refine ⟨_,rfl,?_⟩;have n0_:=Aside0.mk (Kd.R_elder' (by (with_reducible repeat (first | apply Kd.R_alloc | apply Kd.R_drewN | apply Kd.R_drew));exact HO314.out) (Kd.R_base ho0) hb);have n1_:=Aside0.mk (Kd.R_elder' (by (with_reducible repeat (first | apply Kd.R_alloc | apply Kd.R_drewN | apply Kd.R_drew));exact HO317.out) (Kd.R_base ho0) hb);have n2_:=Aside0.mk (Kd.R_lower (Kd.R_newB (Kd.R_new' (Kd.R_new' ho0 (Kd.R_lt (by (with_reducible repeat (first | apply Kd.R_alloc | apply Kd.R_drewN | apply Kd.R_drew));exact HO314.out))) (Kd.R_lt (by (with_reducible repeat (first | apply Kd.R_alloc | apply Kd.R_drewN | apply Kd.R_drew));exact HO317.out))) (g:=gb305) (o:=.cells #[.int .u64 a1_0,.int .u64 a1_1] 25 (0,0)) (by (with_reducible repeat (first | refine blk_drewN ?_ _ | refine blk_drew ?_ | refine blk_alloc ?_ _));exact BK305.out)) (below_size (by repeat (first | (with_reducible first | exact HB.out | apply below_alloc | apply pw_below_drewN | apply below_drew1 | refine below_set ?_ GE305.out) | exact HB.out))));have n3_:=Aside0.mk (blk_below (g:=gb305) (o:=.cells #[.int .u64 a1_0,.int .u64 a1_1] 25 (0,0)) (by (with_reducible repeat (first | refine blk_drewN ?_ _ | refine blk_drew ?_ | refine blk_alloc ?_ _));exact BK305.out) hb);have n4_:=Aside0.mk (below_step (by repeat (first | (with_reducible first | exact HB.out | apply below_alloc | apply pw_below_drewN | apply below_drew1 | refine below_set ?_ GE305.out) | exact HB.out)) hb);clear HO314;clear HO317;clear BK305;clear HB;have HO314:=n0_;have HO317:=n1_;have HO320:=n2_;have BK305:=n3_;have HB:=n4_;clear n0_ n1_ n2_ n3_ n4_;(try clear hb);(try clear hb2);(try clear hk);(try clear hi);(try clear ho0)) | ((with_reducible refine gate_callee (f:=23) rfl ?_);refine goesL_ (some 37) rfl rfl Try.func23 (by kernel_rfl) rfl #[.slice Ao21 y312.length co21,.int .i64 a2] rfl (by (try simp only [List.map_toArray,List.map_cons,List.map_nil]);first | done | rfl | (simp only [List.length_drop,List.length_take];rfl)) ?_;(with_reducible refine (span_Last.calls _ _ y312 a2 t321 _ ?side1 ?side2 A16.out).mono ?_);(case side1 => repeat (first | exact (Kd.R_reads' HO314.out).2.2 | (with_reducible refine Kd.C_alloc ?_ _) | (with_reducible refine Kd.C_drewN ?_ _) | (with_reducible refine Kd.C_drew ?_)));(case side2 => exact (Kd.R_reads' HO314.out).2.1);rintro e w25 ⟨v322,rfl,ho0,hb⟩;refine ⟨_,rfl,?_⟩;have n0_:=Aside0.mk (Kd.R_elder' (by (with_reducible repeat (first | apply Kd.R_alloc | apply Kd.R_drewN | apply Kd.R_drew));exact HO314.out) (Kd.R_base ho0) hb);have n1_:=Aside0.mk (Kd.R_elder' (by (with_reducible repeat (first | apply Kd.R_alloc | apply Kd.R_drewN | apply Kd.R_drew));exact HO317.out) (Kd.R_base ho0) hb);have n2_:=Aside0.mk (Kd.R_elder' (by (with_reducible repeat (first | apply Kd.R_alloc | apply Kd.R_drewN | apply Kd.R_drew));exact HO320.out) (Kd.R_base ho0) hb);have n3_:=Aside0.mk (Kd.R_lower (Kd.R_newB (Kd.R_new' (Kd.R_new' (Kd.R_new' ho0 (Kd.R_lt (by (with_reducible repeat (first | apply Kd.R_alloc | apply Kd.R_drewN | apply Kd.R_drew));exact HO314.out))) (Kd.R_lt (by (with_reducible repeat (first | apply Kd.R_alloc | apply Kd.R_drewN | apply Kd.R_drew));exact HO317.out))) (Kd.R_lt (by (with_reducible repeat (first | apply Kd.R_alloc | apply Kd.R_drewN | apply Kd.R_drew));exact HO320.out))) (g:=gb305) (o:=.cells #[.int .u64 a1_0,.int .u64 a1_1] 25 (0,0)) (by (with_reducible repeat (first | refine blk_drewN ?_ _ | refine blk_drew ?_ | refine blk_alloc ?_ _));exact BK305.out)) (below_size (by repeat (first | (with_reducible first | exact HB.out | apply below_alloc | apply pw_below_drewN | apply below_drew1 | refine below_set ?_ GE305.out) | exact HB.out))));have n4_:=Aside0.mk (blk_below (g:=gb305) (o:=.cells #[.int .u64 a1_0,.int .u64 a1_1] 25 (0,0)) (by (with_reducible repeat (first | refine blk_drewN ?_ _ | refine blk_drew ?_ | refine blk_alloc ?_ _));exact BK305.out) hb);have n5_:=Aside0.mk (below_step (by repeat (first | (with_reducible first | exact HB.out | apply below_alloc | apply pw_below_drewN | apply below_drew1 | refine below_set ?_ GE305.out) | exact HB.out)) hb);clear HO314;clear HO317;clear HO320;clear BK305;clear HB;have HO314:=n0_;have HO317:=n1_;have HO320:=n2_;have HO323:=n3_;have BK305:=n4_;have HB:=n5_;clear n0_ n1_ n2_ n3_ n4_ n5_;(try clear hb);(try clear hb2);(try clear hk);(try clear hi);(try clear ho0)))
     go_loopg [12] kj4 (fun kq v12 w' => ∃ (x9_2 : List (S25)) (x12_2 : Int) (x306000_2 : Int),v12 = .int .i64 x12_2 ∧ Aside0 (wigwaglaw07_SpanOwn.l0 kq l0 t306 y312 x9_2 t318 t321 x12_2 = some r) ∧ Aside0 (kq ≤ kj4) ∧ Aside0 (Kd.R k25 25 w' w.heap.size (fun k_ => some k_ ≠ (v316 : Value).ownBlock ∧ some k_ ≠ (v319 : Value).ownBlock ∧ some k_ ≠ (v322 : Value).ownBlock ∧ k_ ≠ gb305) (.slice Ao21 y312.length co21) y312) ∧ Aside0 (Kd.R k25 25 w' w.heap.size (fun k_ => some k_ ≠ ((.slice Ao21 y312.length co21) : Value).ownBlock ∧ some k_ ≠ (v319 : Value).ownBlock ∧ some k_ ≠ (v322 : Value).ownBlock ∧ k_ ≠ gb305) v316 x9_2) ∧ Aside0 (Kd.R k25 25 w' w.heap.size (fun k_ => some k_ ≠ ((.slice Ao21 y312.length co21) : Value).ownBlock ∧ some k_ ≠ (v316 : Value).ownBlock ∧ some k_ ≠ (v322 : Value).ownBlock ∧ k_ ≠ gb305) v319 t318) ∧ Aside0 (Kd.R k25 25 w' w.heap.size (fun k_ => some k_ ≠ ((.slice Ao21 y312.length co21) : Value).ownBlock ∧ some k_ ≠ (v316 : Value).ownBlock ∧ some k_ ≠ (v319 : Value).ownBlock ∧ k_ ≠ gb305) v322 t321) ∧ Aside0 (w'.heap[gb305]? = some (.cells #[.int .u64 x306000_2,.int .u64 a1_1] 25 (0,0))) ∧ Aside0 (Below w.heap.size w w'))
     case atStart => exact ⟨(t315),(0),(a1_0),(by first | rfl | (simp;done) | (simp [*];done)),H',⟨Nat.le_refl _⟩,⟨by (with_reducible repeat (first | apply Kd.R_alloc | apply Kd.R_drewN | apply Kd.R_drew));exact Kd.R_mono HO314.out (fun _ hk => ⟨hk.1.1.2,⟨hk.1.2,⟨hk.2,hk.1.1.1⟩⟩⟩)⟩,⟨by (with_reducible repeat (first | apply Kd.R_alloc | apply Kd.R_drewN | apply Kd.R_drew));exact Kd.R_mono HO317.out (fun _ hk => ⟨hk.1.1.1.2,⟨hk.1.2,⟨hk.2,hk.1.1.2⟩⟩⟩)⟩,⟨by (with_reducible repeat (first | apply Kd.R_alloc | apply Kd.R_drewN | apply Kd.R_drew));exact Kd.R_mono HO320.out (fun _ hk => ⟨hk.1.1.1.2,⟨hk.1.1.2,⟨hk.2,hk.1.2⟩⟩⟩)⟩,⟨by (with_reducible repeat (first | apply Kd.R_alloc | apply Kd.R_drewN | apply Kd.R_drew));exact Kd.R_mono HO323.out (fun _ hk => ⟨hk.1.1.1.2,⟨hk.1.1.2,⟨hk.1.2,hk.2⟩⟩⟩)⟩,⟨by (with_reducible repeat (first | refine blk_drewN ?_ _ | refine blk_drew ?_ | refine blk_alloc ?_ _));exact BK305.out⟩,⟨by repeat (first | (with_reducible first | exact HB.out | apply below_alloc | apply pw_below_drewN | apply below_drew1 | refine below_set ?_ GE305.out) | exact HB.out)⟩⟩
     case round =>
      clear H'
      try clear c1
      try clear c2
      try clear p2
      try clear c7
      try clear c9
      try clear c10
      try clear c11
      try clear c12
      try clear c13
      try clear c17
      try clear c19
      try clear c23
      try clear hcz20_0
      try clear hcz20_1
      try clear hcz23_0
      try clear hcz23_1
      try clear hfz20_0
      try clear hfz20_1
      try clear hfz23_0
      try clear hfz23_1
      try clear p2
      obtain ⟨x9_2,x12_2,x306000_2,rfl,HA,HK2,HO_8,HO_9,HO_10,HO_11,BK305,HB⟩:=hrel
      cases gk with
      | zero => exact absurd HA.out (by simp [wigwaglaw07_SpanOwn.l0])
      | succ k2 =>
       have H:=HA.out
       clear HA
       simp only [wigwaglaw07_SpanOwn.l0] at H
       by_cases c26 : x12_2 < (x9_2.length : Int)
       ·rw [if_pos c26] at H
        have c26b0 : decide (x12_2 < (x9_2.length : Int)) = true:=decide_eq_true c26
        clear c26
        by_cases c27 : 0 ≤ x12_2
        ·rw [if_pos c27] at H
         have c27b0 : decide (0 ≤ x12_2) = true:=decide_eq_true c27
         clear c27
         obtain ⟨y324,hy324⟩ : ∃ y_ : List (S25),y_ = (x9_2.set (x12_2 : Int).toNat (⟨77,(rd_T25 x9_2 x12_2).f1⟩ : S25)):=⟨_,rfl⟩
         replace H : (wigwaglaw07_SpanOwn.l0 k2 l0 t306 y312 y324 t318 t321 (wrap64 (x12_2 + 1))) = some r:=by first | (rw [hy324];with_reducible exact H) | (have H2_:=(Option.bind_some _ _).symm.trans H;rw [hy324];with_reducible exact H2_) | (have H2_:=(Option.bind_some _ _).symm.trans H;with_reducible exact H2_) | with_reducible exact H | (rw [hy324];exact H) | exact H
         have Ny324:=Aside0.mk hy324
         clear hy324
         have H':=Aside0.mk H
         clear H
         obtain ⟨Ao29,co29,eo29⟩:=Kd.R_slice HO_9.out
         subst eo29
         have p28 : 0 ≤ (x12_2 : Int):=of_decide_eq_true (by first | (with_reducible assumption) | assumption)
         have q28 : (x12_2 : Int) < ((x9_2.length : Int) : Int):=of_decide_eq_true (by first | (with_reducible assumption) | assumption)
         obtain ⟨go28,co28,eo28,gb28,gl28,cl28,HG28⟩:=Kd.R_form HO_9.out (by omega)
         (first | cases eo28 | (injection eo28 with ea_ en_ ec_;(first | subst ea_ | (injection ea_ with ea_;subst ea_));subst ec_;clear en_))
         have GB28:=Aside0.mk gb28
         have GG28:=Aside0.mk HG28
         clear gb28 gl28 HG28
         obtain ⟨ce28,hcl28,hM28,hcc28,hfr28⟩:=Kd.R_elem HO_9.out z25 (x12_2 : Int) p28 q28
         obtain rfl:=k25_openM hM28
         have hx28_0 : wr.cell? ⟨go28,(x12_2 : Int).toNat * 2,none⟩ = some (.int .u64 ((rd_T25 x9_2 x12_2).f0)):=hcc28 0 _ rfl
         have hx28_1 : wr.cell? ⟨go28,(x12_2 : Int).toNat * 2 + 1,none⟩ = some (.int .u64 ((rd_T25 x9_2 x12_2).f1)):=hcc28 1 _ rfl
         have hf28_0 : wr.frozen? ⟨go28,(x12_2 : Int).toNat * 2,none⟩ = false:=hfr28 0
         have hf28_1 : wr.frozen? ⟨go28,(x12_2 : Int).toNat * 2 + 1,none⟩ = false:=hfr28 1
         clear hcl28 hcc28 hfr28 hM28
         replace p28:=eq_true p28
         replace q28:=eq_true q28
         have HX30:=Aside0.mk (show Kd.R k25 25 wr w.heap.size (fun k_ => some k_ ≠ (.slice Ao21 y312.length co21 : Value).ownBlock ∧ some k_ ≠ (v319 : Value).ownBlock ∧ some k_ ≠ (v322 : Value).ownBlock ∧ k_ ≠ gb305) (.slice (some ⟨go28,0,none⟩) x9_2.length co29) x9_2 from (by (with_reducible repeat (first | apply Kd.R_alloc | apply Kd.R_drewN | apply Kd.R_drew));exact HO_9.out))
         obtain ⟨ce30,hcl30,hM30,hcc30,hfr30⟩:=Kd.R_elem HX30.out z25 (x12_2 : Int) (of_decide_eq_true (by first | (with_reducible assumption) | assumption)) (by have h_ : (x12_2 : Int) < ((x9_2.length : Int) : Int):=of_decide_eq_true (by first | (with_reducible assumption) | assumption);first | exact h_ | (have e_:=(Kd.R_reads' HO_9.out).1;omega) | simpa using h_)
         obtain rfl:=k25_openM hM30
         have HP30:=Kd.R_seg HX30.out (x12_2 : Int) (of_decide_eq_true (by first | (with_reducible assumption) | assumption)) (by have h_ : (x12_2 : Int) < ((x9_2.length : Int) : Int):=of_decide_eq_true (by first | (with_reducible assumption) | assumption);first | exact h_ | (have e_:=(Kd.R_reads' HO_9.out).1;omega) | simpa using h_) (seg:=[.int .u64 77]) (j:=0) hcl30 hcc30 (show 1 ≤ 2 from by decide) (x':=(⟨77,(rd_T25 x9_2 x12_2).f1⟩ : S25)) (k25_mkM _ _ _ (⟨77,(rd_T25 x9_2 x12_2).f1⟩ : S25) ) (fun _ hk => hk)
         have hx30_0:=hcc30 0 _ rfl
         (try simp only [show (k25).sz = 2 from rfl,Nat.mul_one,Nat.add_zero] at hx30_0)
         have hf30_0:=hfr30 0
         (try simp only [show (k25).sz = 2 from rfl,Nat.mul_one,Nat.add_zero] at hf30_0)
         clear hcl30 hcc30 hfr30 hM30
         go_wp2_with (first | ((with_reducible refine gate_store (t:=23) (p:=47) rfl ?_);refine store_event (t:=23) (p:=47) (v:=?vo_w31) (w1:=(wr.setCell ⟨go28,(x12_2 : Int).toNat * 2,none⟩ (.int .u64 77))) ?hg ?ho ?hn ?hr ?_;(case ho => rfl);(case hg => rfl);(case hn => rfl);(case hr => first | (go_simp;done) | (go_simp;rfl));intro w31 hw;have hg : wr.grownBy w31 (some go28):=(by rw [hw];exact HP30.2);have hp_ : Kd.R k25 25 w31 w.heap.size (fun k_ => some k_ ≠ (.slice Ao21 y312.length co21 : Value).ownBlock ∧ some k_ ≠ (v319 : Value).ownBlock ∧ some k_ ≠ (v322 : Value).ownBlock ∧ k_ ≠ gb305) (.slice (some ⟨go28,0,none⟩) x9_2.length co29) y324:=(by rw [hw,Ny324.out];exact HP30.1);clear HP30;have n0_:=Aside0.mk (Kd.R_after (v:=(.slice (some ⟨go28,0,none⟩) x9_2.length co29)) (v1:=(.slice (some ⟨go28,0,none⟩) x9_2.length co29)) (ok:=(fun k_ => some k_ ≠ (v319 : Value).ownBlock ∧ some k_ ≠ (v322 : Value).ownBlock ∧ k_ ≠ gb305)) (by (with_reducible repeat (first | apply Kd.R_alloc | apply Kd.R_drewN | apply Kd.R_drew));exact Kd.R_mono HO_8.out (fun _ hk => ⟨⟨hk.2.1,⟨hk.2.2.1,hk.2.2.2⟩⟩,hk.1⟩)) hg (.inl rfl));have n1_:=Aside0.mk (hp_);have n2_:=Aside0.mk (Kd.R_after (v:=(.slice (some ⟨go28,0,none⟩) x9_2.length co29)) (v1:=(.slice (some ⟨go28,0,none⟩) x9_2.length co29)) (ok:=(fun k_ => some k_ ≠ (.slice Ao21 y312.length co21 : Value).ownBlock ∧ some k_ ≠ (v322 : Value).ownBlock ∧ k_ ≠ gb305)) (by (with_reducible repeat (first | apply Kd.R_alloc | apply Kd.R_drewN | apply Kd.R_drew));exact Kd.R_mono HO_10.out (fun _ hk => ⟨⟨hk.1,⟨hk.2.2.1,hk.2.2.2⟩⟩,hk.2.1⟩)) hg (.inl rfl));have n3_:=Aside0.mk (Kd.R_after (v:=(.slice (some ⟨go28,0,none⟩) x9_2.length co29)) (v1:=(.slice (some ⟨go28,0,none⟩) x9_2.length co29)) (ok:=(fun k_ => some k_ ≠ (.slice Ao21 y312.length co21 : Value).ownBlock ∧ some k_ ≠ (v319 : Value).ownBlock ∧ k_ ≠ gb305)) (by (with_reducible repeat (first | apply Kd.R_alloc | apply Kd.R_drewN | apply Kd.R_drew));exact Kd.R_mono HO_11.out (fun _ hk => ⟨⟨hk.1,⟨hk.2.2.1,hk.2.2.2⟩⟩,hk.2.1⟩)) hg (.inl rfl));have n4_:=Aside0.mk (blk_grown (g:=gb305) (o:=.cells #[.int .u64 x306000_2,.int .u64 a1_1] 25 (0,0)) (by (with_reducible repeat (first | refine blk_drewN ?_ _ | refine blk_drew ?_ | refine blk_alloc ?_ _));exact BK305.out) hg (Kd.R_away HO_9.out (fun _ hk => hk.2.2.2)));have n5_:=Aside0.mk ((by rw [hw];exact below_set (HB.out) GB28.out : Below w.heap.size w w31));clear HO_8;clear HO_9;clear HO_10;clear HO_11;clear BK305;clear HB;have HO_8:=n0_;have HO_9:=n1_;have HO_10:=n2_;have HO_11:=n3_;have BK305:=n4_;have HB:=n5_;clear n0_ n1_ n2_ n3_ n4_ n5_;clear hg hw hp_))
         go_roundg k2
         case measure => have:=HJ4.out;have:=HK2.out;omega
         case rel => exact ⟨(y324),(wrap64 (x12_2 + 1)),(x306000_2),(by first | rfl | (simp;done) | (simp [*];done)),H',⟨by have:=HJ4.out;have:=HK2.out;omega⟩,⟨by (with_reducible repeat (first | apply Kd.R_alloc | apply Kd.R_drewN | apply Kd.R_drew));exact Kd.R_mono HO_8.out (fun _ hk => ⟨hk.2,⟨hk.1.1,⟨hk.1.2.1,hk.1.2.2⟩⟩⟩)⟩,⟨by (with_reducible repeat (first | apply Kd.R_alloc | apply Kd.R_drewN | apply Kd.R_drew));exact HO_9.out⟩,⟨by (with_reducible repeat (first | apply Kd.R_alloc | apply Kd.R_drewN | apply Kd.R_drew));exact Kd.R_mono HO_10.out (fun _ hk => ⟨hk.1.1,⟨hk.2,⟨hk.1.2.1,hk.1.2.2⟩⟩⟩)⟩,⟨by (with_reducible repeat (first | apply Kd.R_alloc | apply Kd.R_drewN | apply Kd.R_drew));exact Kd.R_mono HO_11.out (fun _ hk => ⟨hk.1.1,⟨hk.2,⟨hk.1.2.1,hk.1.2.2⟩⟩⟩)⟩,⟨by (with_reducible repeat (first | refine blk_drewN ?_ _ | refine blk_drew ?_ | refine blk_alloc ?_ _));exact BK305.out⟩,⟨by repeat (first | (with_reducible first | exact HB.out | apply below_alloc | apply pw_below_drewN | apply below_drew1 | refine below_set ?_ GE305.out) | exact HB.out)⟩⟩
        ·rw [if_neg c27] at H
         exact absurd H (by simp)
       ·rw [if_neg c26] at H
        have c26b0 : decide (x12_2 < (x9_2.length : Int)) = false:=decide_eq_false c26
        clear c26
        have H':=Aside0.mk H
        clear H
        obtain ⟨Ao32,co32,eo32⟩:=Kd.R_slice HO_9.out
        subst eo32
        go_wp2
        go_loopg [13] k2 (fun kq v13 w' => ∃ (x10_3 : List (S25)) (x13_3 : Int) (x306000_3 : Int),v13 = .int .i64 x13_3 ∧ Aside0 (wigwaglaw07_SpanOwn.l1 kq l0 t306 y312 x10_3 t321 x13_3 = some r) ∧ Aside0 (kq ≤ k2) ∧ Aside0 (Kd.R k25 25 w' w.heap.size (fun k_ => some k_ ≠ (v319 : Value).ownBlock ∧ some k_ ≠ (v322 : Value).ownBlock ∧ k_ ≠ gb305) (.slice Ao21 y312.length co21) y312) ∧ Aside0 (Kd.R k25 25 w' w.heap.size (fun k_ => some k_ ≠ ((.slice Ao21 y312.length co21) : Value).ownBlock ∧ some k_ ≠ (v322 : Value).ownBlock ∧ k_ ≠ gb305) v319 x10_3) ∧ Aside0 (Kd.R k25 25 w' w.heap.size (fun k_ => some k_ ≠ ((.slice Ao21 y312.length co21) : Value).ownBlock ∧ some k_ ≠ (v319 : Value).ownBlock ∧ k_ ≠ gb305) v322 t321) ∧ Aside0 (w'.heap[gb305]? = some (.cells #[.int .u64 x306000_3,.int .u64 a1_1] 25 (0,0))) ∧ Aside0 (Below w.heap.size w w'))
        case atStart => exact ⟨(t318),(0),(x306000_2),(by first | rfl | (simp;done) | (simp [*];done)),H',⟨Nat.le_refl _⟩,⟨by (with_reducible repeat (first | apply Kd.R_alloc | apply Kd.R_drewN | apply Kd.R_drew));exact Kd.R_mono HO_8.out (fun _ hk => ⟨hk.2.1,⟨hk.2.2.1,hk.2.2.2⟩⟩)⟩,⟨by (with_reducible repeat (first | apply Kd.R_alloc | apply Kd.R_drewN | apply Kd.R_drew));exact Kd.R_mono HO_10.out (fun _ hk => ⟨hk.1,⟨hk.2.2.1,hk.2.2.2⟩⟩)⟩,⟨by (with_reducible repeat (first | apply Kd.R_alloc | apply Kd.R_drewN | apply Kd.R_drew));exact Kd.R_mono HO_11.out (fun _ hk => ⟨hk.1,⟨hk.2.2.1,hk.2.2.2⟩⟩)⟩,⟨by (with_reducible repeat (first | refine blk_drewN ?_ _ | refine blk_drew ?_ | refine blk_alloc ?_ _));exact BK305.out⟩,⟨by repeat (first | (with_reducible first | exact HB.out | apply below_alloc | apply pw_below_drewN | apply below_drew1 | refine below_set ?_ GE305.out) | exact HB.out)⟩⟩
        case round =>
         clear H'
         try clear c1
         try clear c2
         try clear p2
         try clear q2
         try clear hx2
         try clear c3
         try clear hx3
         try clear hf3
         try clear p6
         try clear c7
         try clear c9
         try clear c10
         try clear c11
         try clear c12
         try clear c13
         try clear c17
         try clear c19
         try clear c23
         try clear c26
         try clear c26b0
         try clear c27
         try clear c27b0
         try clear c28
         try clear p28
         try clear q28
         try clear hx28
         try clear hf28
         try clear c30
         try clear hx30
         try clear hf30
         try clear hcz20_0
         try clear hcz20_1
         try clear hcz23_0
         try clear hcz23_1
         try clear hfz20_0
         try clear hfz20_1
         try clear hfz23_0
         try clear hfz23_1
         try clear hx28_0
         try clear hx28_1
         try clear hx30_0
         try clear p2
         try clear p28
         try clear q28
         obtain ⟨x10_3,x13_3,x306000_3,rfl,HA,HK3,HO_8,HO_10,HO_11,BK305,HB⟩:=hrel
         cases gk with
         | zero => exact absurd HA.out (by simp [wigwaglaw07_SpanOwn.l1])
         | succ k3 =>
          have H:=HA.out
          clear HA
          simp only [wigwaglaw07_SpanOwn.l1] at H
          by_cases c33 : x13_3 < (x10_3.length : Int)
          ·rw [if_pos c33] at H
           have c33b0 : decide (x13_3 < (x10_3.length : Int)) = true:=decide_eq_true c33
           clear c33
           by_cases c34 : 0 ≤ x13_3
           ·rw [if_pos c34] at H
            have c34b0 : decide (0 ≤ x13_3) = true:=decide_eq_true c34
            clear c34
            obtain ⟨y325,hy325⟩ : ∃ y_ : List (S25),y_ = (x10_3.set (x13_3 : Int).toNat (⟨77,(rd_T25 x10_3 x13_3).f1⟩ : S25)):=⟨_,rfl⟩
            replace H : (wigwaglaw07_SpanOwn.l1 k3 l0 t306 y312 y325 t321 (wrap64 (x13_3 + 1))) = some r:=by first | (rw [hy325];with_reducible exact H) | (have H2_:=(Option.bind_some _ _).symm.trans H;rw [hy325];with_reducible exact H2_) | (have H2_:=(Option.bind_some _ _).symm.trans H;with_reducible exact H2_) | with_reducible exact H | (rw [hy325];exact H) | exact H
            have Ny325:=Aside0.mk hy325
            clear hy325
            have H':=Aside0.mk H
            clear H
            obtain ⟨Ao36,co36,eo36⟩:=Kd.R_slice HO_10.out
            subst eo36
            have p35 : 0 ≤ (x13_3 : Int):=of_decide_eq_true (by first | (with_reducible assumption) | assumption)
            have q35 : (x13_3 : Int) < ((x10_3.length : Int) : Int):=of_decide_eq_true (by first | (with_reducible assumption) | assumption)
            obtain ⟨go35,co35,eo35,gb35,gl35,cl35,HG35⟩:=Kd.R_form HO_10.out (by omega)
            (first | cases eo35 | (injection eo35 with ea_ en_ ec_;(first | subst ea_ | (injection ea_ with ea_;subst ea_));subst ec_;clear en_))
            have GB35:=Aside0.mk gb35
            have GG35:=Aside0.mk HG35
            clear gb35 gl35 HG35
            obtain ⟨ce35,hcl35,hM35,hcc35,hfr35⟩:=Kd.R_elem HO_10.out z25 (x13_3 : Int) p35 q35
            obtain rfl:=k25_openM hM35
            have hx35_0 : wr.cell? ⟨go35,(x13_3 : Int).toNat * 2,none⟩ = some (.int .u64 ((rd_T25 x10_3 x13_3).f0)):=hcc35 0 _ rfl
            have hx35_1 : wr.cell? ⟨go35,(x13_3 : Int).toNat * 2 + 1,none⟩ = some (.int .u64 ((rd_T25 x10_3 x13_3).f1)):=hcc35 1 _ rfl
            have hf35_0 : wr.frozen? ⟨go35,(x13_3 : Int).toNat * 2,none⟩ = false:=hfr35 0
            have hf35_1 : wr.frozen? ⟨go35,(x13_3 : Int).toNat * 2 + 1,none⟩ = false:=hfr35 1
            clear hcl35 hcc35 hfr35 hM35
            replace p35:=eq_true p35
            replace q35:=eq_true q35
            have HX37:=Aside0.mk (show Kd.R k25 25 wr w.heap.size (fun k_ => some k_ ≠ (.slice Ao21 y312.length co21 : Value).ownBlock ∧ some k_ ≠ (v322 : Value).ownBlock ∧ k_ ≠ gb305) (.slice (some ⟨go35,0,none⟩) x10_3.length co36) x10_3 from (by (with_reducible repeat (first | apply Kd.R_alloc | apply Kd.R_drewN | apply Kd.R_drew));exact HO_10.out))
            obtain ⟨ce37,hcl37,hM37,hcc37,hfr37⟩:=Kd.R_elem HX37.out z25 (x13_3 : Int) (of_decide_eq_true (by first | (with_reducible assumption) | assumption)) (by have h_ : (x13_3 : Int) < ((x10_3.length : Int) : Int):=of_decide_eq_true (by first | (with_reducible assumption) | assumption);first | exact h_ | (have e_:=(Kd.R_reads' HO_10.out).1;omega) | simpa using h_)
            obtain rfl:=k25_openM hM37
            have HP37:=Kd.R_seg HX37.out (x13_3 : Int) (of_decide_eq_true (by first | (with_reducible assumption) | assumption)) (by have h_ : (x13_3 : Int) < ((x10_3.length : Int) : Int):=of_decide_eq_true (by first | (with_reducible assumption) | assumption);first | exact h_ | (have e_:=(Kd.R_reads' HO_10.out).1;omega) | simpa using h_) (seg:=[.int .u64 77]) (j:=0) hcl37 hcc37 (show 1 ≤ 2 from by decide) (x':=(⟨77,(rd_T25 x10_3 x13_3).f1⟩ : S25)) (k25_mkM _ _ _ (⟨77,(rd_T25 x10_3 x13_3).f1⟩ : S25) ) (fun _ hk => hk)
            have hx37_0:=hcc37 0 _ rfl
            (try simp only [show (k25).sz = 2 from rfl,Nat.mul_one,Nat.add_zero] at hx37_0)
            have hf37_0:=hfr37 0
            (try simp only [show (k25).sz = 2 from rfl,Nat.mul_one,Nat.add_zero] at hf37_0)
            clear hcl37 hcc37 hfr37 hM37
            go_wp2_with (first | ((with_reducible refine gate_store (t:=23) (p:=57) rfl ?_);refine store_event (t:=23) (p:=57) (v:=?vo_w38) (w1:=(wr.setCell ⟨go35,(x13_3 : Int).toNat * 2,none⟩ (.int .u64 77))) ?hg ?ho ?hn ?hr ?_;(case ho => rfl);(case hg => rfl);(case hn => rfl);(case hr => first | (go_simp;done) | (go_simp;rfl));intro w38 hw;have hg : wr.grownBy w38 (some go35):=(by rw [hw];exact HP37.2);have hp_ : Kd.R k25 25 w38 w.heap.size (fun k_ => some k_ ≠ (.slice Ao21 y312.length co21 : Value).ownBlock ∧ some k_ ≠ (v322 : Value).ownBlock ∧ k_ ≠ gb305) (.slice (some ⟨go35,0,none⟩) x10_3.length co36) y325:=(by rw [hw,Ny325.out];exact HP37.1);clear HP37;have n0_:=Aside0.mk (Kd.R_after (v:=(.slice (some ⟨go35,0,none⟩) x10_3.length co36)) (v1:=(.slice (some ⟨go35,0,none⟩) x10_3.length co36)) (ok:=(fun k_ => some k_ ≠ (v322 : Value).ownBlock ∧ k_ ≠ gb305)) (by (with_reducible repeat (first | apply Kd.R_alloc | apply Kd.R_drewN | apply Kd.R_drew));exact Kd.R_mono HO_8.out (fun _ hk => ⟨⟨hk.2.1,hk.2.2⟩,hk.1⟩)) hg (.inl rfl));have n1_:=Aside0.mk (hp_);have n2_:=Aside0.mk (Kd.R_after (v:=(.slice (some ⟨go35,0,none⟩) x10_3.length co36)) (v1:=(.slice (some ⟨go35,0,none⟩) x10_3.length co36)) (ok:=(fun k_ => some k_ ≠ (.slice Ao21 y312.length co21 : Value).ownBlock ∧ k_ ≠ gb305)) (by (with_reducible repeat (first | apply Kd.R_alloc | apply Kd.R_drewN | apply Kd.R_drew));exact Kd.R_mono HO_11.out (fun _ hk => ⟨⟨hk.1,hk.2.2⟩,hk.2.1⟩)) hg (.inl rfl));have n3_:=Aside0.mk (blk_grown (g:=gb305) (o:=.cells #[.int .u64 x306000_3,.int .u64 a1_1] 25 (0,0)) (by (with_reducible repeat (first | refine blk_drewN ?_ _ | refine blk_drew ?_ | refine blk_alloc ?_ _));exact BK305.out) hg (Kd.R_away HO_10.out (fun _ hk => hk.2.2)));have n4_:=Aside0.mk ((by rw [hw];exact below_set (HB.out) GB35.out : Below w.heap.size w w38));clear HO_8;clear HO_10;clear HO_11;clear BK305;clear HB;have HO_8:=n0_;have HO_10:=n1_;have HO_11:=n2_;have BK305:=n3_;have HB:=n4_;clear n0_ n1_ n2_ n3_ n4_;clear hg hw hp_))
            go_roundg k3
            case measure => have:=HJ4.out;have:=HK2.out;have:=HK3.out;omega
            case rel => exact ⟨(y325),(wrap64 (x13_3 + 1)),(x306000_3),(by first | rfl | (simp;done) | (simp [*];done)),H',⟨by have:=HJ4.out;have:=HK2.out;have:=HK3.out;omega⟩,⟨by (with_reducible repeat (first | apply Kd.R_alloc | apply Kd.R_drewN | apply Kd.R_drew));exact Kd.R_mono HO_8.out (fun _ hk => ⟨hk.2,⟨hk.1.1,hk.1.2⟩⟩)⟩,⟨by (with_reducible repeat (first | apply Kd.R_alloc | apply Kd.R_drewN | apply Kd.R_drew));exact HO_10.out⟩,⟨by (with_reducible repeat (first | apply Kd.R_alloc | apply Kd.R_drewN | apply Kd.R_drew));exact Kd.R_mono HO_11.out (fun _ hk => ⟨hk.1.1,⟨hk.2,hk.1.2⟩⟩)⟩,⟨by (with_reducible repeat (first | refine blk_drewN ?_ _ | refine blk_drew ?_ | refine blk_alloc ?_ _));exact BK305.out⟩,⟨by repeat (first | (with_reducible first | exact HB.out | apply below_alloc | apply pw_below_drewN | apply below_drew1 | refine below_set ?_ GE305.out) | exact HB.out)⟩⟩
           ·rw [if_neg c34] at H
            exact absurd H (by simp)
          ·rw [if_neg c33] at H
           have c33b0 : decide (x13_3 < (x10_3.length : Int)) = false:=decide_eq_false c33
           clear c33
           have H':=Aside0.mk H
           clear H
           obtain ⟨Ao39,co39,eo39⟩:=Kd.R_slice HO_10.out
           subst eo39
           go_wp2
           go_loopg [14] k3 (fun kq v14 w' => ∃ (x11_4 : List (S25)) (x14_4 : Int) (x306000_4 : Int),v14 = .int .i64 x14_4 ∧ Aside0 (wigwaglaw07_SpanOwn.l2 kq l0 t306 y312 x11_4 x14_4 = some r) ∧ Aside0 (kq ≤ k3) ∧ Aside0 (Kd.R k25 25 w' w.heap.size (fun k_ => some k_ ≠ (v322 : Value).ownBlock ∧ k_ ≠ gb305) (.slice Ao21 y312.length co21) y312) ∧ Aside0 (Kd.R k25 25 w' w.heap.size (fun k_ => some k_ ≠ ((.slice Ao21 y312.length co21) : Value).ownBlock ∧ k_ ≠ gb305) v322 x11_4) ∧ Aside0 (w'.heap[gb305]? = some (.cells #[.int .u64 x306000_4,.int .u64 a1_1] 25 (0,0))) ∧ Aside0 (Below w.heap.size w w'))
           case atStart => exact ⟨(t321),(0),(x306000_3),(by first | rfl | (simp;done) | (simp [*];done)),H',⟨Nat.le_refl _⟩,⟨by (with_reducible repeat (first | apply Kd.R_alloc | apply Kd.R_drewN | apply Kd.R_drew));exact Kd.R_mono HO_8.out (fun _ hk => ⟨hk.2.1,hk.2.2⟩)⟩,⟨by (with_reducible repeat (first | apply Kd.R_alloc | apply Kd.R_drewN | apply Kd.R_drew));exact Kd.R_mono HO_11.out (fun _ hk => ⟨hk.1,hk.2.2⟩)⟩,⟨by (with_reducible repeat (first | refine blk_drewN ?_ _ | refine blk_drew ?_ | refine blk_alloc ?_ _));exact BK305.out⟩,⟨by repeat (first | (with_reducible first | exact HB.out | apply below_alloc | apply pw_below_drewN | apply below_drew1 | refine below_set ?_ GE305.out) | exact HB.out)⟩⟩
           case round =>
            clear H'
            try clear c1
            try clear c2
            try clear p2
            try clear q2
            try clear hx2
            try clear c3
            try clear p3
            try clear q3
            try clear hx3
            try clear hf3
            try clear p6
            try clear c7
            try clear c9
            try clear c10
            try clear c11
            try clear c12
            try clear c13
            try clear c17
            try clear c19
            try clear c23
            try clear c26
            try clear c26b0
            try clear c27
            try clear c27b0
            try clear c28
            try clear p28
            try clear q28
            try clear hx28
            try clear hf28
            try clear c30
            try clear hx30
            try clear hf30
            try clear c33
            try clear c33b0
            try clear c34
            try clear c34b0
            try clear c35
            try clear p35
            try clear q35
            try clear hx35
            try clear hf35
            try clear c37
            try clear hx37
            try clear hf37
            try clear hcz20_0
            try clear hcz20_1
            try clear hcz23_0
            try clear hcz23_1
            try clear hfz20_0
            try clear hfz20_1
            try clear hfz23_0
            try clear hfz23_1
            try clear hx28_0
            try clear hx28_1
            try clear hx30_0
            try clear hx35_0
            try clear hx35_1
            try clear hx37_0
            try clear p2
            try clear p28
            try clear p35
            try clear p6
            try clear q2
            try clear q28
            try clear q35
            obtain ⟨x11_4,x14_4,x306000_4,rfl,HA,HK4,HO_8,HO_11,BK305,HB⟩:=hrel
            cases gk with
            | zero => exact absurd HA.out (by simp [wigwaglaw07_SpanOwn.l2])
            | succ k4 =>
             have H:=HA.out
             clear HA
             simp only [wigwaglaw07_SpanOwn.l2] at H
             by_cases c40 : x14_4 < (x11_4.length : Int)
             ·rw [if_pos c40] at H
              have c40b0 : decide (x14_4 < (x11_4.length : Int)) = true:=decide_eq_true c40
              clear c40
              by_cases c41 : 0 ≤ x14_4
              ·rw [if_pos c41] at H
               have c41b0 : decide (0 ≤ x14_4) = true:=decide_eq_true c41
               clear c41
               obtain ⟨y326,hy326⟩ : ∃ y_ : List (S25),y_ = (x11_4.set (x14_4 : Int).toNat (⟨77,(rd_T25 x11_4 x14_4).f1⟩ : S25)):=⟨_,rfl⟩
               replace H : (wigwaglaw07_SpanOwn.l2 k4 l0 t306 y312 y326 (wrap64 (x14_4 + 1))) = some r:=by first | (rw [hy326];with_reducible exact H) | (have H2_:=(Option.bind_some _ _).symm.trans H;rw [hy326];with_reducible exact H2_) | (have H2_:=(Option.bind_some _ _).symm.trans H;with_reducible exact H2_) | with_reducible exact H | (rw [hy326];exact H) | exact H
               have Ny326:=Aside0.mk hy326
               clear hy326
               have H':=Aside0.mk H
               clear H
               obtain ⟨Ao43,co43,eo43⟩:=Kd.R_slice HO_11.out
               subst eo43
               have p42 : 0 ≤ (x14_4 : Int):=of_decide_eq_true (by first | (with_reducible assumption) | assumption)
               have q42 : (x14_4 : Int) < ((x11_4.length : Int) : Int):=of_decide_eq_true (by first | (with_reducible assumption) | assumption)
               obtain ⟨go42,co42,eo42,gb42,gl42,cl42,HG42⟩:=Kd.R_form HO_11.out (by omega)
               (first | cases eo42 | (injection eo42 with ea_ en_ ec_;(first | subst ea_ | (injection ea_ with ea_;subst ea_));subst ec_;clear en_))
               have GB42:=Aside0.mk gb42
               have GG42:=Aside0.mk HG42
               clear gb42 gl42 HG42
               obtain ⟨ce42,hcl42,hM42,hcc42,hfr42⟩:=Kd.R_elem HO_11.out z25 (x14_4 : Int) p42 q42
               obtain rfl:=k25_openM hM42
               have hx42_0 : wr.cell? ⟨go42,(x14_4 : Int).toNat * 2,none⟩ = some (.int .u64 ((rd_T25 x11_4 x14_4).f0)):=hcc42 0 _ rfl
               have hx42_1 : wr.cell? ⟨go42,(x14_4 : Int).toNat * 2 + 1,none⟩ = some (.int .u64 ((rd_T25 x11_4 x14_4).f1)):=hcc42 1 _ rfl
               have hf42_0 : wr.frozen? ⟨go42,(x14_4 : Int).toNat * 2,none⟩ = false:=hfr42 0
               have hf42_1 : wr.frozen? ⟨go42,(x14_4 : Int).toNat * 2 + 1,none⟩ = false:=hfr42 1
               clear hcl42 hcc42 hfr42 hM42
               replace p42:=eq_true p42
               replace q42:=eq_true q42
               have HX44:=Aside0.mk (show Kd.R k25 25 wr w.heap.size (fun k_ => some k_ ≠ (.slice Ao21 y312.length co21 : Value).ownBlock ∧ k_ ≠ gb305) (.slice (some ⟨go42,0,none⟩) x11_4.length co43) x11_4 from (by (with_reducible repeat (first | apply Kd.R_alloc | apply Kd.R_drewN | apply Kd.R_drew));exact HO_11.out))
               obtain ⟨ce44,hcl44,hM44,hcc44,hfr44⟩:=Kd.R_elem HX44.out z25 (x14_4 : Int) (of_decide_eq_true (by first | (with_reducible assumption) | assumption)) (by have h_ : (x14_4 : Int) < ((x11_4.length : Int) : Int):=of_decide_eq_true (by first | (with_reducible assumption) | assumption);first | exact h_ | (have e_:=(Kd.R_reads' HO_11.out).1;omega) | simpa using h_)
               obtain rfl:=k25_openM hM44
               have HP44:=Kd.R_seg HX44.out (x14_4 : Int) (of_decide_eq_true (by first | (with_reducible assumption) | assumption)) (by have h_ : (x14_4 : Int) < ((x11_4.length : Int) : Int):=of_decide_eq_true (by first | (with_reducible assumption) | assumption);first | exact h_ | (have e_:=(Kd.R_reads' HO_11.out).1;omega) | simpa using h_) (seg:=[.int .u64 77]) (j:=0) hcl44 hcc44 (show 1 ≤ 2 from by decide) (x':=(⟨77,(rd_T25 x11_4 x14_4).f1⟩ : S25)) (k25_mkM _ _ _ (⟨77,(rd_T25 x11_4 x14_4).f1⟩ : S25) ) (fun _ hk => hk)
               have hx44_0:=hcc44 0 _ rfl
               (try simp only [show (k25).sz = 2 from rfl,Nat.mul_one,Nat.add_zero] at hx44_0)
               have hf44_0:=hfr44 0
               (try simp only [show (k25).sz = 2 from rfl,Nat.mul_one,Nat.add_zero] at hf44_0)
               clear hcl44 hcc44 hfr44 hM44
               go_wp2_with (first | ((with_reducible refine gate_store (t:=23) (p:=67) rfl ?_);refine store_event (t:=23) (p:=67) (v:=?vo_w45) (w1:=(wr.setCell ⟨go42,(x14_4 : Int).toNat * 2,none⟩ (.int .u64 77))) ?hg ?ho ?hn ?hr ?_;(case ho => rfl);(case hg => rfl);(case hn => rfl);(case hr => first | (go_simp;done) | (go_simp;rfl));intro w45 hw;have hg : wr.grownBy w45 (some go42):=(by rw [hw];exact HP44.2);have hp_ : Kd.R k25 25 w45 w.heap.size (fun k_ => some k_ ≠ (.slice Ao21 y312.length co21 : Value).ownBlock ∧ k_ ≠ gb305) (.slice (some ⟨go42,0,none⟩) x11_4.length co43) y326:=(by rw [hw,Ny326.out];exact HP44.1);clear HP44;have n0_:=Aside0.mk (Kd.R_after (v:=(.slice (some ⟨go42,0,none⟩) x11_4.length co43)) (v1:=(.slice (some ⟨go42,0,none⟩) x11_4.length co43)) (ok:=(fun k_ => k_ ≠ gb305)) (by (with_reducible repeat (first | apply Kd.R_alloc | apply Kd.R_drewN | apply Kd.R_drew));exact Kd.R_mono HO_8.out (fun _ hk => ⟨hk.2,hk.1⟩)) hg (.inl rfl));have n1_:=Aside0.mk (hp_);have n2_:=Aside0.mk (blk_grown (g:=gb305) (o:=.cells #[.int .u64 x306000_4,.int .u64 a1_1] 25 (0,0)) (by (with_reducible repeat (first | refine blk_drewN ?_ _ | refine blk_drew ?_ | refine blk_alloc ?_ _));exact BK305.out) hg (Kd.R_away HO_11.out (fun _ hk => hk.2)));have n3_:=Aside0.mk ((by rw [hw];exact below_set (HB.out) GB42.out : Below w.heap.size w w45));clear HO_8;clear HO_11;clear BK305;clear HB;have HO_8:=n0_;have HO_11:=n1_;have BK305:=n2_;have HB:=n3_;clear n0_ n1_ n2_ n3_;clear hg hw hp_))
               go_roundg k4
               case measure => have:=HJ4.out;have:=HK2.out;have:=HK3.out;have:=HK4.out;omega
               case rel => exact ⟨(y326),(wrap64 (x14_4 + 1)),(x306000_4),(by first | rfl | (simp;done) | (simp [*];done)),H',⟨by have:=HJ4.out;have:=HK2.out;have:=HK3.out;have:=HK4.out;omega⟩,⟨by (with_reducible repeat (first | apply Kd.R_alloc | apply Kd.R_drewN | apply Kd.R_drew));exact Kd.R_mono HO_8.out (fun _ hk => ⟨hk.2,hk.1⟩)⟩,⟨by (with_reducible repeat (first | apply Kd.R_alloc | apply Kd.R_drewN | apply Kd.R_drew));exact HO_11.out⟩,⟨by (with_reducible repeat (first | refine blk_drewN ?_ _ | refine blk_drew ?_ | refine blk_alloc ?_ _));exact BK305.out⟩,⟨by repeat (first | (with_reducible first | exact HB.out | apply below_alloc | apply pw_below_drewN | apply below_drew1 | refine below_set ?_ GE305.out) | exact HB.out)⟩⟩
              ·rw [if_neg c41] at H
               exact absurd H (by simp)
             ·rw [if_neg c40] at H
              have c40b0 : decide (x14_4 < (x11_4.length : Int)) = false:=decide_eq_false c40
              clear c40
              replace H:=Option.bind_eq_some_iff.mp H
              obtain ⟨t327,A460,H⟩:=H
              replace H : (if t306 = true then (some t327) else (some false)) = some r:=H
              have A46:=Aside0.mk A460
              clear A460
              have HS47:=Aside0.mk H
              clear H
              obtain ⟨Ao48,co48,eo48⟩:=Kd.R_slice HO_11.out
              subst eo48
              go_upto_region 21 with (first | ((with_reducible refine gate_callee (f:=16) rfl ?_);refine goesL_ (some 70) rfl rfl Try.func16 (by kernel_rfl) rfl #[.slice Ao21 y312.length co21,.slice A0 l0.length c0] rfl (by (try simp only [List.map_toArray,List.map_cons,List.map_nil]);first | done | rfl | (simp only [List.length_drop,List.length_take];rfl)) ?_;(with_reducible refine (wigwagref07_Same.calls k4 _ _ y312 _ _ l0 t327 _ ?side1 ?side2 ?side3 ?side4 A46.out).mono ?_);(case side1 => repeat (first | exact (Kd.R_reads' HO_8.out).2.2 | (with_reducible refine Kd.C_alloc ?_ _) | (with_reducible refine Kd.C_drewN ?_ _) | (with_reducible refine Kd.C_drew ?_)));(case side2 => exact (Kd.R_reads' HO_8.out).2.1);(case side3 => repeat (first | exact (Kd.C_below HR0.out HB.out) | (with_reducible refine Kd.C_alloc ?_ _) | (with_reducible refine Kd.C_drewN ?_ _) | (with_reducible refine Kd.C_drew ?_)));(case side4 => exact HC0.out);rintro e w' ⟨rfl,⟨nd,rfl⟩⟩;refine ⟨_,rfl,?_⟩))
              (try simp only [Act.put,List.setIfInBounds_toArray,List.set_cons_zero,List.set_cons_succ])
              have H:=HS47.out
              clear HS47
              by_cases c49 : t306 = true
              ·subst c49
               have H1 : (some t327) = some r:=by rw [if_pos rfl] at H;exact H
               clear H
               have H:=H1
               clear H1
               obtain rfl:=Option.some.inj H
               go_wp2
               go_ret
               exact ⟨by first | rfl | (simp [errW_none,errW_some] <;> rfl) | (simp [*,errW_none,errW_some] <;> rfl),by repeat (first | (with_reducible first | exact HB.out | apply below_alloc | apply pw_below_drewN | apply below_drew1 | refine below_set ?_ GE305.out) | exact HB.out)⟩
              ·replace c49:=Bool.eq_false_iff.mpr c49
               subst c49
               have H1 : (some false) = some r:=by rw [if_neg (show ¬ (false = true) by decide)] at H;exact H
               clear H
               have H:=H1
               clear H1
               obtain rfl:=Option.some.inj H
               go_wp2
               go_ret
               exact ⟨by first | rfl | (simp [errW_none,errW_some] <;> rfl) | (simp [*,errW_none,errW_some] <;> rfl),by repeat (first | (with_reducible first | exact HB.out | apply below_alloc | apply pw_below_drewN | apply below_drew1 | refine below_set ?_ GE305.out) | exact HB.out)⟩
    ·rw [if_neg c13] at H
     exact absurd H (by simp)

end Go.Proofs.Ytgaccappklhojaa.P
