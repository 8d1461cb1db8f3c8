-- Printed for this claim by xprint.py of this session: contracts of this session's own stand in for what the print does not take
import Derived.Test.YtgaccappklhojaaPx0
import Derived.Test.YtgaccappklhojaaPx2
import Derived.Test.YtgaccappklhojaaPx5
import Derived.Test.YtgaccappklhojaaPx6
import Derived.Test.YtgaccappklhojaaPx7
import Derived.Test.YtgaccappklhojaaPx9
import Derived.Test.YtgaccappklhojaaPx10
import Derived.Test.YtgaccappklhojaaPx13
namespace Go.Proofs.Ytgaccappklhojaa.P
open Go.RowKit Go.Proofs.YtgaccappklhojaaW.PrintWords Go.Proofs.YtgaccappklhojaaW.PrintLast Go.Proofs.YtgaccappklhojaaW.PrintMore
attribute [local go_sem] max2_int min2_int max_two min_two max_three min_three max_four min_four   -- for this text's walks alone
set_option linter.unusedVariables false
set_option linter.unusedSimpArgs false

/-! ### wigwaglaw07_SpanOrder: function 6 -/
def wigwaglaw07_SpanOrder.j0 : Nat → List (S25) → Bool → Bool → Int → Int → Int → Int → Option (Bool)
 | 0,_,_,_,_,_,_,_ => none
 | k + 1,x0,x7,x22,x264000,x264001,x265000,x265001 => if x22 = true then (some x7) else ((span_Add.f k x0 x264000 x264001).bind fun t268 => ((span_Add.f k t268 x265000 x265001).bind fun t271 => ((span_Add.f k x0 x265000 x265001).bind fun t274 => ((span_Add.f k t274 x264000 x264001).bind fun t277 => ((wigwagref07_Same.f k t271 t277).bind fun t280 => ((span_Add.f k t271 x264000 x264001).bind fun t281 => ((wigwagref07_Same.f k t281 t271).bind fun t284 => ((span_Add.f k x0 x264000 x264001).bind fun t285 => ((span_Cut.f t285 x264000 x264001).bind fun t288 => ((span_Cut.f x0 x264000 x264001).bind fun t291 => ((wigwagref07_Same.f k t288 t291).bind fun t294 => ((span_Both.f k x0 x0).bind fun t295 => ((some (([] : List (S25)) : List (S25))).bind fun y298 => (if y298.length + x0.length < 8796093022208 then ((wigwagref07_Same.f k t295 (y298 ++ x0)).bind fun t304 => (if x7 = true then (if t280 = true then (if t284 = true then (if t294 = true then (some t304) else (some false)) else (some false)) else (some false)) else (some false))) else (none)))))))))))))))
def wigwaglaw07_SpanOrder.f (k : Nat) (l0 : List (S25)) (a1_0 : Int) (a1_1 : Int) (a2_0 : Int) (a2_1 : Int) : Option (Bool):=(wigwaglaw07_awake.f k).bind fun t265 => ((wigwaglaw07_few.f l0).bind fun t266 => (if t266 = true then ((span_Check.f k l0).bind fun t267 => (wigwaglaw07_SpanOrder.j0 k l0 t265 (!t267) a1_0 a1_1 a2_0 a2_1)) else (wigwaglaw07_SpanOrder.j0 k l0 t265 true a1_0 a1_1 a2_0 a2_1)))
theorem wigwaglaw07_SpanOrder.mono_l : ∀ k,(∀ y0 y1 y2 y3 y4 y5 y6,LeO (wigwaglaw07_SpanOrder.j0 k y0 y1 y2 y3 y4 y5 y6) (wigwaglaw07_SpanOrder.j0 (k + 1) y0 y1 y2 y3 y4 y5 y6))
 | 0 => fun _ _ _ _ _ _ _ r h => by simp [wigwaglaw07_SpanOrder.j0] at h
 | k + 1 => by
  have ih0:=wigwaglaw07_SpanOrder.mono_l k
  ·intro y0 y1 y2 y3 y4 y5 y6
   unfold wigwaglaw07_SpanOrder.j0
   repeat' first
   | (with_reducible exact ih0 _ _ _ _ _ _ _)
   | (with_reducible exact span_Add.mono _ _ _ _)
   | (with_reducible exact span_Both.mono _ _ _)
   | (with_reducible exact span_Check.mono _ _)
   | (with_reducible exact wigwaglaw07_awake.mono _)
   | (with_reducible exact wigwagref07_Same.mono _ _ _)
   | (with_reducible exact LeO.refl _)
   | (with_reducible exact LeO.none _)
   | (with_reducible refine LeO.ite ?_ ?_)
   | (with_reducible refine LeO.bind ?_ (fun _ => ?_))
   | exact ih0 _ _ _ _ _ _ _
   | exact span_Add.mono _ _ _ _
   | exact span_Both.mono _ _ _
   | exact span_Check.mono _ _
   | exact wigwaglaw07_awake.mono _
   | exact wigwagref07_Same.mono _ _ _
   | exact LeO.none _
   | refine LeO.ite ?_ ?_
   | refine LeO.bind ?_ (fun _ => ?_)
theorem wigwaglaw07_SpanOrder.mono : ∀ a0 a1 a2 a3 a4 k,LeO (wigwaglaw07_SpanOrder.f k a0 a1 a2 a3 a4) (wigwaglaw07_SpanOrder.f (k + 1) a0 a1 a2 a3 a4):=by
 intro a0 a1 a2 a3 a4 k
 have ih0:=wigwaglaw07_SpanOrder.mono_l k
 unfold wigwaglaw07_SpanOrder.f
 repeat' first
   | (with_reducible exact ih0 _ _ _ _ _ _ _)
   | (with_reducible exact span_Add.mono _ _ _ _)
   | (with_reducible exact span_Both.mono _ _ _)
   | (with_reducible exact span_Check.mono _ _)
   | (with_reducible exact wigwaglaw07_awake.mono _)
   | (with_reducible exact wigwagref07_Same.mono _ _ _)
   | (with_reducible exact LeO.refl _)
   | (with_reducible exact LeO.none _)
   | (with_reducible refine LeO.ite ?_ ?_)
   | (with_reducible refine LeO.bind ?_ (fun _ => ?_))
   | exact ih0 _ _ _ _ _ _ _
   | exact span_Add.mono _ _ _ _
   | exact span_Both.mono _ _ _
   | exact span_Check.mono _ _
   | exact wigwaglaw07_awake.mono _
   | exact wigwagref07_Same.mono _ _ _
   | exact LeO.none _
   | refine LeO.ite ?_ ?_
   | refine LeO.bind ?_ (fun _ => ?_)
def wigwaglaw07_SpanOrder.T8 : Bool × List (List Nat × List Nat):=(true,[([],[]),([],[]),([0,1],[0,1]),([],[]),([2,3,2],[2,3]),([],[]),([],[]),([5,6,4],[5,6]),([4,7,7],[4,7]),([8,8,0,1,2,3,4,5,6,7,8],[8])])
def wigwaglaw07_SpanOrder.B8 : List Nat:=[0,0,3,0,15,0,0,127,255,511]
theorem wigwaglaw07_SpanOrder.tab8 : rtab .any (opsOf Try.f6 8) = wigwaglaw07_SpanOrder.T8:=by kernel_rfl
theorem wigwaglaw07_SpanOrder.bits8 : waitsOk wigwaglaw07_SpanOrder.T8.2 wigwaglaw07_SpanOrder.B8 = true:=by kernel_rfl
set_option maxHeartbeats 8000000 in
set_option maxRecDepth 100000 in
theorem wigwaglaw07_SpanOrder.calls (k : Nat) (A0 : Option Addr) (c0 : Nat) (l0 : List (S25)) (a1_0 : Int) (a1_1 : Int) (a2_0 : Int) (a2_1 : Int) (r : Bool) (w : World) (hr0 : Kd.C k25 w A0 l0.length l0) (hc0 : l0.length ≤ c0) (h : wigwaglaw07_SpanOrder.f k l0 a1_0 a1_1 a2_0 a2_1 = some r) :
  Calls Try.prog 6 #[.slice A0 l0.length c0,.agg #[.int .u64 a1_0,.int .u64 a1_1],.agg #[.int .u64 a2_0,.int .u64 a2_1]] w fun e w' => e = .returned (.bool r) ∧ Below w.heap.size w w':=by
 have hu25:=Try.underlying25
 have HR0:=Aside0.mk hr0
 have HC0:=Aside0.mk hc0
 clear hr0 hc0
 have HB:=Aside0.mk (Below.refl w.heap.size w)
 have H : ((wigwaglaw07_awake.f k).bind fun t265 => ((wigwaglaw07_few.f l0).bind fun t266 => (if t266 = true then ((span_Check.f k l0).bind fun t267 => (wigwaglaw07_SpanOrder.j0 k l0 t265 (!t267) a1_0 a1_1 a2_0 a2_1)) else (wigwaglaw07_SpanOrder.j0 k l0 t265 true a1_0 a1_1 a2_0 a2_1)))) = some r:=h
 clear h
 replace H:=Option.bind_eq_some_iff.mp H
 obtain ⟨t265,A40,H⟩:=H
 replace H : ((wigwaglaw07_few.f l0).bind fun t266 => (if t266 = true then ((span_Check.f k l0).bind fun t267 => (wigwaglaw07_SpanOrder.j0 k l0 t265 (!t267) a1_0 a1_1 a2_0 a2_1)) else (wigwaglaw07_SpanOrder.j0 k l0 t265 true a1_0 a1_1 a2_0 a2_1))) = some r:=H
 have A4:=Aside0.mk A40
 clear A40
 have HC5:=Aside0.mk H
 clear H
 go_enter Try.func6,Try.ntmps6
 go_upto_region 2 with (first | ((with_reducible refine gate_dst (N:=4) rfl ?_);refine box_event ?hg (N:=4) ?hd (cs:=#[.int .u64 a1_0,.int .u64 a1_1]) (t:=25) ?hr ?_;(case hd => rfl);(case hg => rfl);(case hr => first | (go_simp;done) | (go_simp;rfl));intro gb263 hg w6 hbox hb;have n0_:=Aside0.mk (below_step (by repeat (first | (with_reducible first | exact HB.out | apply below_alloc | apply pw_below_drewN | apply below_drew1) | exact HB.out)) hb);have n1_:=Aside0.mk (hbox);have n2_:=Aside0.mk ((by rw [hg];exact (below_size (by repeat (first | (with_reducible first | exact HB.out | apply below_alloc | apply pw_below_drewN | apply below_drew1) | exact HB.out))) : w.heap.size ≤ gb263));have n3_:=Aside0.mk ((by rw [hg];exact (below_size (by repeat (first | (with_reducible first | exact HB.out | apply below_alloc | apply pw_below_drewN | apply below_drew1) | exact HB.out))) : w.heap.size ≤ gb263));clear HB;have HB:=n0_;have BK263:=n1_;have GW263:=n2_;have GE263:=n3_;clear n0_ n1_ n2_ n3_;clear hb hbox hg) | ((with_reducible refine gate_dst (N:=5) rfl ?_);refine box_event ?hg (N:=5) ?hd (cs:=#[.int .u64 a2_0,.int .u64 a2_1]) (t:=25) ?hr ?_;(case hd => rfl);(case hg => rfl);(case hr => first | (go_simp;done) | (go_simp;rfl));intro gb264 hg w7 hbox hb;have n0_:=Aside0.mk (blk_below (g:=gb263) (o:=.cells #[.int .u64 a1_0,.int .u64 a1_1] 25 (0,0)) (by (with_reducible repeat (first | refine blk_drewN ?_ _ | refine blk_drew ?_ | refine blk_alloc ?_ _));exact BK263.out) hb);have n1_:=Aside0.mk (below_step (by repeat (first | (with_reducible first | exact HB.out | apply below_alloc | apply pw_below_drewN | apply below_drew1 | refine below_set ?_ GE263.out) | exact HB.out)) hb);have n2_:=Aside0.mk (hbox);have n3_:=Aside0.mk ((by rw [hg];exact (below_size (by repeat (first | (with_reducible first | exact HB.out | apply below_alloc | apply pw_below_drewN | apply below_drew1 | refine below_set ?_ GE263.out) | exact HB.out))) : w.heap.size ≤ gb264));have n4_:=Aside0.mk ((by rw [hg];exact (below_size (by repeat (first | (with_reducible first | exact HB.out | apply below_alloc | apply pw_below_drewN | apply below_drew1 | refine below_set ?_ GE263.out) | exact HB.out))) : w.heap.size ≤ gb264));have n5_:=Aside0.mk ((by rw [hg];exact Nat.ne_of_lt (blk_lt (g:=gb263) (o:=.cells #[.int .u64 a1_0,.int .u64 a1_1] 25 (0,0)) (by (with_reducible repeat (first | refine blk_drewN ?_ _ | refine blk_drew ?_ | refine blk_alloc ?_ _));exact BK263.out)) : gb263 ≠ gb264));have n6_:=Aside0.mk ((by rw [hg];exact Nat.ne_of_gt (blk_lt (g:=gb263) (o:=.cells #[.int .u64 a1_0,.int .u64 a1_1] 25 (0,0)) (by (with_reducible repeat (first | refine blk_drewN ?_ _ | refine blk_drew ?_ | refine blk_alloc ?_ _));exact BK263.out)) : gb264 ≠ gb263));clear BK263;clear HB;have BK263:=n0_;have HB:=n1_;have BK264:=n2_;have GW264:=n3_;have GE264:=n4_;have NB263_264:=n5_;have NB264_263:=n6_;clear n0_ n1_ n2_ n3_ n4_ n5_ n6_;clear hb hbox hg) | ((with_reducible refine gate_callee (f:=10) rfl ?_);refine goesL_ (some 14) rfl rfl Try.func10 (by kernel_rfl) rfl #[] rfl (by (try simp only [List.map_toArray,List.map_cons,List.map_nil]);first | done | rfl | (simp only [List.length_drop,List.length_take];rfl)) ?_;(with_reducible refine (wigwaglaw07_awake.calls k  t265 _ A4.out).mono ?_);rintro e w8 ⟨rfl,hb⟩;refine ⟨_,rfl,?_⟩;have n0_:=Aside0.mk (blk_below (g:=gb263) (o:=.cells #[.int .u64 a1_0,.int .u64 a1_1] 25 (0,0)) (by (with_reducible repeat (first | refine blk_drewN ?_ _ | refine blk_drew ?_ | refine blk_alloc ?_ _));exact BK263.out) hb);have n1_:=Aside0.mk (blk_below (g:=gb264) (o:=.cells #[.int .u64 a2_0,.int .u64 a2_1] 25 (0,0)) (by (with_reducible repeat (first | refine blk_drewN ?_ _ | refine blk_drew ?_ | refine blk_alloc ?_ _));exact BK264.out) hb);have n2_:=Aside0.mk (below_step (by repeat (first | (with_reducible first | exact HB.out | apply below_alloc | apply pw_below_drewN | apply below_drew1 | refine below_set ?_ GE263.out | refine below_set ?_ GE264.out) | exact HB.out)) hb);clear BK263;clear BK264;clear HB;have BK263:=n0_;have BK264:=n1_;have HB:=n2_;clear n0_ n1_ n2_;(try clear hb);(try clear hb2);(try clear hk);(try clear hi)))
 (try simp only [Act.put,List.setIfInBounds_toArray,List.set_cons_zero,List.set_cons_succ])
 go_cut [22] (fun v22 wc => ∃ (kq : Nat) (x22_4 : Bool),v22 = .bool x22_4 ∧ Aside0 (wigwaglaw07_SpanOrder.j0 kq l0 t265 x22_4 a1_0 a1_1 a2_0 a2_1 = some r) ∧ Aside0 (kq ≤ k) ∧ Aside0 (wc.heap[gb263]? = some (.cells #[.int .u64 a1_0,.int .u64 a1_1] 25 (0,0))) ∧ Aside0 (wc.heap[gb264]? = some (.cells #[.int .u64 a2_0,.int .u64 a2_1] 25 (0,0))) ∧ Aside0 (Below w.heap.size w wc))
 case first =>
  have H:=HC5.out
  clear HC5
  replace H:=Option.bind_eq_some_iff.mp H
  obtain ⟨t266,A90,H⟩:=H
  replace H : (if t266 = true then ((span_Check.f k l0).bind fun t267 => (wigwaglaw07_SpanOrder.j0 k l0 t265 (!t267) a1_0 a1_1 a2_0 a2_1)) else (wigwaglaw07_SpanOrder.j0 k l0 t265 true a1_0 a1_1 a2_0 a2_1)) = some r:=H
  have A9:=Aside0.mk A90
  clear A90
  by_cases c10 : t266 = true
  ·subst c10
   have H1 : ((span_Check.f k l0).bind fun t267 => (wigwaglaw07_SpanOrder.j0 k l0 t265 (!t267) a1_0 a1_1 a2_0 a2_1)) = some r:=by rw [if_pos rfl] at H;exact H
   clear H
   have H:=H1
   clear H1
   replace H:=Option.bind_eq_some_iff.mp H
   obtain ⟨t267,A110,H⟩:=H
   replace H : (wigwaglaw07_SpanOrder.j0 k l0 t265 (!t267) a1_0 a1_1 a2_0 a2_1) = some r:=H
   have A11:=Aside0.mk A110
   clear A110
   have H':=Aside0.mk H
   clear H
   go_wp2_with (first | ((with_reducible refine gate_callee (f:=11) rfl ?_);refine goesL_ (some 16) rfl rfl Try.func11 (by kernel_rfl) rfl #[.slice A0 l0.length c0] rfl (by (try simp only [List.map_toArray,List.map_cons,List.map_nil]);first | done | rfl | (simp only [List.length_drop,List.length_take];rfl)) ?_;(with_reducible refine (wigwaglaw07_few.calls _ _ l0 true _ ?side1 ?side2 A9.out).mono ?_);(case side1 => repeat (first | exact (Kd.C_below HR0.out HB.out) | (with_reducible refine Kd.C_alloc ?_ _) | (with_reducible refine Kd.C_drewN ?_ _) | (with_reducible refine Kd.C_drew ?_)));(case side2 => exact HC0.out);rintro e w' ⟨rfl,⟨nd,rfl⟩⟩;refine ⟨_,rfl,?_⟩) | (go_at_call 12;(with_reducible refine (span_Check.calls k _ _ l0 t267 _ ?side1 ?side2 A11.out).mono ?_);(case side1 => repeat (first | exact (Kd.C_below HR0.out (by repeat (first | (with_reducible first | exact HB.out | apply below_alloc | apply pw_below_drewN | apply below_drew1 | refine below_set ?_ GE263.out | refine below_set ?_ GE264.out) | exact HB.out))) | (with_reducible refine Kd.C_alloc ?_ _) | (with_reducible refine Kd.C_drewN ?_ _) | (with_reducible refine Kd.C_drew ?_)));(case side2 => exact HC0.out);rintro e w12 ⟨rfl,hb⟩;have n0_:=Aside0.mk (blk_below (g:=gb263) (o:=.cells #[.int .u64 a1_0,.int .u64 a1_1] 25 (0,0)) (by (with_reducible repeat (first | refine blk_drewN ?_ _ | refine blk_drew ?_ | refine blk_alloc ?_ _));exact BK263.out) hb);have n1_:=Aside0.mk (blk_below (g:=gb264) (o:=.cells #[.int .u64 a2_0,.int .u64 a2_1] 25 (0,0)) (by (with_reducible repeat (first | refine blk_drewN ?_ _ | refine blk_drew ?_ | refine blk_alloc ?_ _));exact BK264.out) hb);have n2_:=Aside0.mk (below_step (by repeat (first | (with_reducible first | exact HB.out | apply below_alloc | apply pw_below_drewN | apply below_drew1 | refine below_set ?_ GE263.out | refine below_set ?_ GE264.out) | exact HB.out)) hb);clear BK263;clear BK264;clear HB;have BK263:=n0_;have BK264:=n1_;have HB:=n2_;clear n0_ n1_ n2_;(try clear hb);(try clear hb2);(try clear hk);(try clear hi)))
   go_meet
   case rel => exact ⟨_,(!t267),(by first | rfl | (simp;done) | (simp [*];done)),H',⟨by first | omega | exact Nat.le_refl _⟩,⟨by (with_reducible repeat (first | refine blk_drewN ?_ _ | refine blk_drew ?_ | refine blk_alloc ?_ _));exact BK263.out⟩,⟨by (with_reducible repeat (first | refine blk_drewN ?_ _ | refine blk_drew ?_ | refine blk_alloc ?_ _));exact BK264.out⟩,⟨by repeat (first | (with_reducible first | exact HB.out | apply below_alloc | apply pw_below_drewN | apply below_drew1 | refine below_set ?_ GE263.out | refine below_set ?_ GE264.out) | exact HB.out)⟩⟩
  ·replace c10:=Bool.eq_false_iff.mpr c10
   subst c10
   have H1 : (wigwaglaw07_SpanOrder.j0 k l0 t265 true a1_0 a1_1 a2_0 a2_1) = some r:=by rw [if_neg (show ¬ (false = true) by decide)] at H;exact H
   clear H
   have H:=H1
   clear H1
   have H':=Aside0.mk H
   clear H
   go_wp2_with (first | ((with_reducible refine gate_callee (f:=11) rfl ?_);refine goesL_ (some 16) rfl rfl Try.func11 (by kernel_rfl) rfl #[.slice A0 l0.length c0] rfl (by (try simp only [List.map_toArray,List.map_cons,List.map_nil]);first | done | rfl | (simp only [List.length_drop,List.length_take];rfl)) ?_;(with_reducible refine (wigwaglaw07_few.calls _ _ l0 false _ ?side1 ?side2 A9.out).mono ?_);(case side1 => repeat (first | exact (Kd.C_below HR0.out HB.out) | (with_reducible refine Kd.C_alloc ?_ _) | (with_reducible refine Kd.C_drewN ?_ _) | (with_reducible refine Kd.C_drew ?_)));(case side2 => exact HC0.out);rintro e w' ⟨rfl,⟨nd,rfl⟩⟩;refine ⟨_,rfl,?_⟩))
   go_meet
   case rel => exact ⟨_,(true),(by first | rfl | (simp;done) | (simp [*];done)),H',⟨by first | omega | exact Nat.le_refl _⟩,⟨by (with_reducible repeat (first | refine blk_drewN ?_ _ | refine blk_drew ?_ | refine blk_alloc ?_ _));exact BK263.out⟩,⟨by (with_reducible repeat (first | refine blk_drewN ?_ _ | refine blk_drew ?_ | refine blk_alloc ?_ _));exact BK264.out⟩,⟨by repeat (first | (with_reducible first | exact HB.out | apply below_alloc | apply pw_below_drewN | apply below_drew1 | refine below_set ?_ GE263.out | refine below_set ?_ GE264.out) | exact HB.out)⟩⟩
 case rest =>
  clear HC5
  try clear c1
  try clear p2
  try clear c6
  try clear c10
  try clear c11
  obtain ⟨kq,x22_4,rfl,HA,HJ4,BK263,BK264,HB⟩:=hcut
  cases kq with
  | zero => exact absurd HA.out (by simp [wigwaglaw07_SpanOrder.j0])
  | succ kj4 =>
   have H:=HA.out
   clear HA
   simp only [wigwaglaw07_SpanOrder.j0] at H
   by_cases c13 : x22_4 = true
   ·subst c13
    have H1 : (some t265) = some r:=by rw [if_pos rfl] at H;exact H
    clear H
    have H:=H1
    clear H1
    obtain rfl:=Option.some.inj H
    go_wp2
    go_ret
    exact ⟨by first | rfl | (simp [errW_none,errW_some] <;> rfl) | (simp [*,errW_none,errW_some] <;> rfl),by repeat (first | (with_reducible first | exact HB.out | apply below_alloc | apply pw_below_drewN | apply below_drew1 | refine below_set ?_ GE263.out | refine below_set ?_ GE264.out) | exact HB.out)⟩
   ·replace c13:=Bool.eq_false_iff.mpr c13
    subst c13
    have H1 : ((span_Add.f kj4 l0 a1_0 a1_1).bind fun t268 => ((span_Add.f kj4 t268 a2_0 a2_1).bind fun t271 => ((span_Add.f kj4 l0 a2_0 a2_1).bind fun t274 => ((span_Add.f kj4 t274 a1_0 a1_1).bind fun t277 => ((wigwagref07_Same.f kj4 t271 t277).bind fun t280 => ((span_Add.f kj4 t271 a1_0 a1_1).bind fun t281 => ((wigwagref07_Same.f kj4 t281 t271).bind fun t284 => ((span_Add.f kj4 l0 a1_0 a1_1).bind fun t285 => ((span_Cut.f t285 a1_0 a1_1).bind fun t288 => ((span_Cut.f l0 a1_0 a1_1).bind fun t291 => ((wigwagref07_Same.f kj4 t288 t291).bind fun t294 => ((span_Both.f kj4 l0 l0).bind fun t295 => ((some (([] : List (S25)) : List (S25))).bind fun y298 => (if y298.length + l0.length < 8796093022208 then ((wigwagref07_Same.f kj4 t295 (y298 ++ l0)).bind fun t304 => (if t265 = true then (if t280 = true then (if t284 = true then (if t294 = true then (some t304) else (some false)) else (some false)) else (some false)) else (some false))) else (none))))))))))))))) = some r:=by rw [if_neg (show ¬ (false = true) by decide)] at H;exact H
    clear H
    have H:=H1
    clear H1
    replace H:=Option.bind_eq_some_iff.mp H
    obtain ⟨t268,A140,H⟩:=H
    replace H : ((span_Add.f kj4 t268 a2_0 a2_1).bind fun t271 => ((span_Add.f kj4 l0 a2_0 a2_1).bind fun t274 => ((span_Add.f kj4 t274 a1_0 a1_1).bind fun t277 => ((wigwagref07_Same.f kj4 t271 t277).bind fun t280 => ((span_Add.f kj4 t271 a1_0 a1_1).bind fun t281 => ((wigwagref07_Same.f kj4 t281 t271).bind fun t284 => ((span_Add.f kj4 l0 a1_0 a1_1).bind fun t285 => ((span_Cut.f t285 a1_0 a1_1).bind fun t288 => ((span_Cut.f l0 a1_0 a1_1).bind fun t291 => ((wigwagref07_Same.f kj4 t288 t291).bind fun t294 => ((span_Both.f kj4 l0 l0).bind fun t295 => ((some (([] : List (S25)) : List (S25))).bind fun y298 => (if y298.length + l0.length < 8796093022208 then ((wigwagref07_Same.f kj4 t295 (y298 ++ l0)).bind fun t304 => (if t265 = true then (if t280 = true then (if t284 = true then (if t294 = true then (some t304) else (some false)) else (some false)) else (some false)) else (some false))) else (none)))))))))))))) = some r:=H
    have A14:=Aside0.mk A140
    clear A140
    replace H:=Option.bind_eq_some_iff.mp H
    obtain ⟨t271,A150,H⟩:=H
    replace H : ((span_Add.f kj4 l0 a2_0 a2_1).bind fun t274 => ((span_Add.f kj4 t274 a1_0 a1_1).bind fun t277 => ((wigwagref07_Same.f kj4 t271 t277).bind fun t280 => ((span_Add.f kj4 t271 a1_0 a1_1).bind fun t281 => ((wigwagref07_Same.f kj4 t281 t271).bind fun t284 => ((span_Add.f kj4 l0 a1_0 a1_1).bind fun t285 => ((span_Cut.f t285 a1_0 a1_1).bind fun t288 => ((span_Cut.f l0 a1_0 a1_1).bind fun t291 => ((wigwagref07_Same.f kj4 t288 t291).bind fun t294 => ((span_Both.f kj4 l0 l0).bind fun t295 => ((some (([] : List (S25)) : List (S25))).bind fun y298 => (if y298.length + l0.length < 8796093022208 then ((wigwagref07_Same.f kj4 t295 (y298 ++ l0)).bind fun t304 => (if t265 = true then (if t280 = true then (if t284 = true then (if t294 = true then (some t304) else (some false)) else (some false)) else (some false)) else (some false))) else (none))))))))))))) = some r:=H
    have A15:=Aside0.mk A150
    clear A150
    replace H:=Option.bind_eq_some_iff.mp H
    obtain ⟨t274,A160,H⟩:=H
    replace H : ((span_Add.f kj4 t274 a1_0 a1_1).bind fun t277 => ((wigwagref07_Same.f kj4 t271 t277).bind fun t280 => ((span_Add.f kj4 t271 a1_0 a1_1).bind fun t281 => ((wigwagref07_Same.f kj4 t281 t271).bind fun t284 => ((span_Add.f kj4 l0 a1_0 a1_1).bind fun t285 => ((span_Cut.f t285 a1_0 a1_1).bind fun t288 => ((span_Cut.f l0 a1_0 a1_1).bind fun t291 => ((wigwagref07_Same.f kj4 t288 t291).bind fun t294 => ((span_Both.f kj4 l0 l0).bind fun t295 => ((some (([] : List (S25)) : List (S25))).bind fun y298 => (if y298.length + l0.length < 8796093022208 then ((wigwagref07_Same.f kj4 t295 (y298 ++ l0)).bind fun t304 => (if t265 = true then (if t280 = true then (if t284 = true then (if t294 = true then (some t304) else (some false)) else (some false)) else (some false)) else (some false))) else (none)))))))))))) = some r:=H
    have A16:=Aside0.mk A160
    clear A160
    replace H:=Option.bind_eq_some_iff.mp H
    obtain ⟨t277,A170,H⟩:=H
    replace H : ((wigwagref07_Same.f kj4 t271 t277).bind fun t280 => ((span_Add.f kj4 t271 a1_0 a1_1).bind fun t281 => ((wigwagref07_Same.f kj4 t281 t271).bind fun t284 => ((span_Add.f kj4 l0 a1_0 a1_1).bind fun t285 => ((span_Cut.f t285 a1_0 a1_1).bind fun t288 => ((span_Cut.f l0 a1_0 a1_1).bind fun t291 => ((wigwagref07_Same.f kj4 t288 t291).bind fun t294 => ((span_Both.f kj4 l0 l0).bind fun t295 => ((some (([] : List (S25)) : List (S25))).bind fun y298 => (if y298.length + l0.length < 8796093022208 then ((wigwagref07_Same.f kj4 t295 (y298 ++ l0)).bind fun t304 => (if t265 = true then (if t280 = true then (if t284 = true then (if t294 = true then (some t304) else (some false)) else (some false)) else (some false)) else (some false))) else (none))))))))))) = some r:=H
    have A17:=Aside0.mk A170
    clear A170
    replace H:=Option.bind_eq_some_iff.mp H
    obtain ⟨t280,A180,H⟩:=H
    replace H : ((span_Add.f kj4 t271 a1_0 a1_1).bind fun t281 => ((wigwagref07_Same.f kj4 t281 t271).bind fun t284 => ((span_Add.f kj4 l0 a1_0 a1_1).bind fun t285 => ((span_Cut.f t285 a1_0 a1_1).bind fun t288 => ((span_Cut.f l0 a1_0 a1_1).bind fun t291 => ((wigwagref07_Same.f kj4 t288 t291).bind fun t294 => ((span_Both.f kj4 l0 l0).bind fun t295 => ((some (([] : List (S25)) : List (S25))).bind fun y298 => (if y298.length + l0.length < 8796093022208 then ((wigwagref07_Same.f kj4 t295 (y298 ++ l0)).bind fun t304 => (if t265 = true then (if t280 = true then (if t284 = true then (if t294 = true then (some t304) else (some false)) else (some false)) else (some false)) else (some false))) else (none)))))))))) = some r:=H
    have A18:=Aside0.mk A180
    clear A180
    replace H:=Option.bind_eq_some_iff.mp H
    obtain ⟨t281,A190,H⟩:=H
    replace H : ((wigwagref07_Same.f kj4 t281 t271).bind fun t284 => ((span_Add.f kj4 l0 a1_0 a1_1).bind fun t285 => ((span_Cut.f t285 a1_0 a1_1).bind fun t288 => ((span_Cut.f l0 a1_0 a1_1).bind fun t291 => ((wigwagref07_Same.f kj4 t288 t291).bind fun t294 => ((span_Both.f kj4 l0 l0).bind fun t295 => ((some (([] : List (S25)) : List (S25))).bind fun y298 => (if y298.length + l0.length < 8796093022208 then ((wigwagref07_Same.f kj4 t295 (y298 ++ l0)).bind fun t304 => (if t265 = true then (if t280 = true then (if t284 = true then (if t294 = true then (some t304) else (some false)) else (some false)) else (some false)) else (some false))) else (none))))))))) = some r:=H
    have A19:=Aside0.mk A190
    clear A190
    replace H:=Option.bind_eq_some_iff.mp H
    obtain ⟨t284,A200,H⟩:=H
    replace H : ((span_Add.f kj4 l0 a1_0 a1_1).bind fun t285 => ((span_Cut.f t285 a1_0 a1_1).bind fun t288 => ((span_Cut.f l0 a1_0 a1_1).bind fun t291 => ((wigwagref07_Same.f kj4 t288 t291).bind fun t294 => ((span_Both.f kj4 l0 l0).bind fun t295 => ((some (([] : List (S25)) : List (S25))).bind fun y298 => (if y298.length + l0.length < 8796093022208 then ((wigwagref07_Same.f kj4 t295 (y298 ++ l0)).bind fun t304 => (if t265 = true then (if t280 = true then (if t284 = true then (if t294 = true then (some t304) else (some false)) else (some false)) else (some false)) else (some false))) else (none)))))))) = some r:=H
    have A20:=Aside0.mk A200
    clear A200
    replace H:=Option.bind_eq_some_iff.mp H
    obtain ⟨t285,A210,H⟩:=H
    replace H : ((span_Cut.f t285 a1_0 a1_1).bind fun t288 => ((span_Cut.f l0 a1_0 a1_1).bind fun t291 => ((wigwagref07_Same.f kj4 t288 t291).bind fun t294 => ((span_Both.f kj4 l0 l0).bind fun t295 => ((some (([] : List (S25)) : List (S25))).bind fun y298 => (if y298.length + l0.length < 8796093022208 then ((wigwagref07_Same.f kj4 t295 (y298 ++ l0)).bind fun t304 => (if t265 = true then (if t280 = true then (if t284 = true then (if t294 = true then (some t304) else (some false)) else (some false)) else (some false)) else (some false))) else (none))))))) = some r:=H
    have A21:=Aside0.mk A210
    clear A210
    replace H:=Option.bind_eq_some_iff.mp H
    obtain ⟨t288,A220,H⟩:=H
    replace H : ((span_Cut.f l0 a1_0 a1_1).bind fun t291 => ((wigwagref07_Same.f kj4 t288 t291).bind fun t294 => ((span_Both.f kj4 l0 l0).bind fun t295 => ((some (([] : List (S25)) : List (S25))).bind fun y298 => (if y298.length + l0.length < 8796093022208 then ((wigwagref07_Same.f kj4 t295 (y298 ++ l0)).bind fun t304 => (if t265 = true then (if t280 = true then (if t284 = true then (if t294 = true then (some t304) else (some false)) else (some false)) else (some false)) else (some false))) else (none)))))) = some r:=H
    have A22:=Aside0.mk A220
    clear A220
    replace H:=Option.bind_eq_some_iff.mp H
    obtain ⟨t291,A230,H⟩:=H
    replace H : ((wigwagref07_Same.f kj4 t288 t291).bind fun t294 => ((span_Both.f kj4 l0 l0).bind fun t295 => ((some (([] : List (S25)) : List (S25))).bind fun y298 => (if y298.length + l0.length < 8796093022208 then ((wigwagref07_Same.f kj4 t295 (y298 ++ l0)).bind fun t304 => (if t265 = true then (if t280 = true then (if t284 = true then (if t294 = true then (some t304) else (some false)) else (some false)) else (some false)) else (some false))) else (none))))) = some r:=H
    have A23:=Aside0.mk A230
    clear A230
    replace H:=Option.bind_eq_some_iff.mp H
    obtain ⟨t294,A240,H⟩:=H
    replace H : ((span_Both.f kj4 l0 l0).bind fun t295 => ((some (([] : List (S25)) : List (S25))).bind fun y298 => (if y298.length + l0.length < 8796093022208 then ((wigwagref07_Same.f kj4 t295 (y298 ++ l0)).bind fun t304 => (if t265 = true then (if t280 = true then (if t284 = true then (if t294 = true then (some t304) else (some false)) else (some false)) else (some false)) else (some false))) else (none)))) = some r:=H
    have A24:=Aside0.mk A240
    clear A240
    replace H:=Option.bind_eq_some_iff.mp H
    obtain ⟨t295,A250,H⟩:=H
    replace H : ((some (([] : List (S25)) : List (S25))).bind fun y298 => (if y298.length + l0.length < 8796093022208 then ((wigwagref07_Same.f kj4 t295 (y298 ++ l0)).bind fun t304 => (if t265 = true then (if t280 = true then (if t284 = true then (if t294 = true then (some t304) else (some false)) else (some false)) else (some false)) else (some false))) else (none))) = some r:=H
    have A25:=Aside0.mk A250
    clear A250
    obtain ⟨y298,hy298⟩ : ∃ y_ : List (S25),y_ = (([] : List (S25))):=⟨_,rfl⟩
    replace H : (if y298.length + l0.length < 8796093022208 then ((wigwagref07_Same.f kj4 t295 (y298 ++ l0)).bind fun t304 => (if t265 = true then (if t280 = true then (if t284 = true then (if t294 = true then (some t304) else (some false)) else (some false)) else (some false)) else (some false))) else (none)) = some r:=by first | (rw [hy298];with_reducible exact H) | (have H2_:=(Option.bind_some _ _).symm.trans H;rw [hy298];with_reducible exact H2_) | (have H2_:=(Option.bind_some _ _).symm.trans H;with_reducible exact H2_) | with_reducible exact H | (rw [hy298];exact H) | exact H
    have Ny298:=Aside0.mk hy298
    clear hy298
    by_cases c26 : y298.length + l0.length < 8796093022208
    ·rw [if_pos c26] at H
     have LMc26:=Aside0.mk c26
     clear c26
     obtain ⟨y301,hy301⟩ : ∃ y_ : List (S25),y_ = (y298 ++ l0):=⟨_,rfl⟩
     replace H : ((wigwagref07_Same.f kj4 t295 y301).bind fun t304 => (if t265 = true then (if t280 = true then (if t284 = true then (if t294 = true then (some t304) else (some false)) else (some false)) else (some false)) else (some false))) = some r:=by first | (rw [hy301];with_reducible exact H) | (have H2_:=(Option.bind_some _ _).symm.trans H;rw [hy301];with_reducible exact H2_) | (have H2_:=(Option.bind_some _ _).symm.trans H;with_reducible exact H2_) | with_reducible exact H | (rw [hy301];exact H) | exact H
     have Ny301:=Aside0.mk hy301
     clear hy301
     replace H:=Option.bind_eq_some_iff.mp H
     obtain ⟨t304,A270,H⟩:=H
     replace H : (if t265 = true then (if t280 = true then (if t284 = true then (if t294 = true then (some t304) else (some false)) else (some false)) else (some false)) else (some false)) = some r:=H
     have A27:=Aside0.mk A270
     clear A270
     have HS28:=Aside0.mk H
     clear H
     try go_wp2
     have n0_:=Aside0.mk (blk_drew BK263.out)
     have n1_:=Aside0.mk (blk_drew BK264.out)
     have n2_:=Aside0.mk (below_drew1 HB.out)
     clear BK263
     clear BK264
     clear HB
     have BK263:=n0_
     have BK264:=n1_
     have HB:=n2_
     clear n0_ n1_ n2_
     refine start_ (n:=6) (S:=fun w' => w'.cell? ⟨gb263,0,none⟩ = some (.int .u64 a1_0) ∧ w'.cell? ⟨gb263,1,none⟩ = some (.int .u64 a1_1) ∧ w'.cell? ⟨gb264,0,none⟩ = some (.int .u64 a2_0) ∧ w'.cell? ⟨gb264,1,none⟩ = some (.int .u64 a2_1)) (ds:=[]) #[false,false,false,false,false,false] (by kernel_rfl) rfl rfl ⟨(blk_cell BK263.out 0).trans rfl,(blk_cell BK263.out 1).trans rfl,(blk_cell BK264.out 0).trans rfl,(blk_cell BK264.out 1).trans rfl⟩ (fun hHeld => ?_)
     generalize wc.drew = w29 at BK263 BK264 HB hHeld ⊢
     refine pure_ (i:=0) (N:=some 24) (v:=?_) (a':=?_) #[true,false,false,false,false,false] rfl rfl (by kernel_rfl) (fun _ _ _ h => h) (Or.inl ⟨by rfl,?_⟩) ?_ ?_
     rotate_left
     ·intro w'
      go_simp
      with_reducible rfl
     rotate_left
     ·simp only [Act.put,List.setIfInBounds_toArray,List.set_cons_zero,List.set_cons_succ,i64_w,i32_w]
      rfl
     refine take_ (i:=1) (N:=some 25) (v:=?_) (a':=?_) #[true,true,false,false,false,false] rfl rfl (by kernel_rfl) (fun _ _ _ h => h) (Or.inl ⟨by rfl,?_⟩) hHeld ?_ ?_
     rotate_left
     ·rintro w' ⟨s0,s1,s2,s3⟩
      go_simp
      with_reducible rfl
     rotate_left
     ·simp only [Act.put,List.setIfInBounds_toArray,List.set_cons_zero,List.set_cons_succ,i64_w,i32_w]
      rfl
     refine take_ (i:=3) (N:=some 27) (v:=?_) (a':=?_) #[true,true,false,true,false,false] rfl rfl (by kernel_rfl) (fun _ _ _ h => h) (Or.inl ⟨by rfl,?_⟩) hHeld ?_ ?_
     rotate_left
     ·rintro w' ⟨s0,s1,s2,s3⟩
      go_simp
      with_reducible rfl
     rotate_left
     ·simp only [Act.put,List.setIfInBounds_toArray,List.set_cons_zero,List.set_cons_succ,i64_w,i32_w]
      rfl
     refine one_ (i:=2) (N:=some 26) #[true,true,true,true,false,false] rfl rfl (by kernel_rfl) (by decide) (fun K hK => ?_)
     refine goes_ Try.func17 (by kernel_rfl) rfl #[.slice A0 l0.length c0,.agg #[.int .u64 a1_0,.int .u64 a1_1]] (by rfl) rfl rfl (by (try simp only [List.map_toArray,List.map_cons,List.map_nil]);first | done | rfl | (simp only [List.length_drop,List.length_take];rfl)) ?_
     with_reducible refine (span_Add.calls kj4 _ _ l0 a1_0 a1_1 t268 _ ?side1 ?side2 A14.out).mono ?_
     (case side1 => repeat (first | exact (Kd.C_below HR0.out HB.out) | (with_reducible refine Kd.C_alloc ?_ _) | (with_reducible refine Kd.C_drewN ?_ _) | (with_reducible refine Kd.C_drew ?_)))
     (case side2 => exact HC0.out)
     rintro e w30 ⟨v269,rfl,ho0,hb⟩
     refine ⟨_,rfl,?_⟩
     have n0_:=Aside0.mk (Kd.R_lower (Kd.R_newB (Kd.R_newB ho0 (g:=gb263) (o:=.cells #[.int .u64 a1_0,.int .u64 a1_1] 25 (0,0)) (by (with_reducible repeat (first | refine blk_drewN ?_ _ | refine blk_drew ?_ | refine blk_alloc ?_ _));exact BK263.out)) (g:=gb264) (o:=.cells #[.int .u64 a2_0,.int .u64 a2_1] 25 (0,0)) (by (with_reducible repeat (first | refine blk_drewN ?_ _ | refine blk_drew ?_ | refine blk_alloc ?_ _));exact BK264.out)) (below_size (by repeat (first | (with_reducible first | exact HB.out | apply below_alloc | apply pw_below_drewN | apply below_drew1 | refine below_set ?_ GE263.out | refine below_set ?_ GE264.out) | exact HB.out))))
     have n1_:=Aside0.mk (blk_below (g:=gb263) (o:=.cells #[.int .u64 a1_0,.int .u64 a1_1] 25 (0,0)) (by (with_reducible repeat (first | refine blk_drewN ?_ _ | refine blk_drew ?_ | refine blk_alloc ?_ _));exact BK263.out) hb)
     have n2_:=Aside0.mk (blk_below (g:=gb264) (o:=.cells #[.int .u64 a2_0,.int .u64 a2_1] 25 (0,0)) (by (with_reducible repeat (first | refine blk_drewN ?_ _ | refine blk_drew ?_ | refine blk_alloc ?_ _));exact BK264.out) hb)
     have n3_:=Aside0.mk (below_step (by repeat (first | (with_reducible first | exact HB.out | apply below_alloc | apply pw_below_drewN | apply below_drew1 | refine below_set ?_ GE263.out | refine below_set ?_ GE264.out) | exact HB.out)) hb)
     clear BK263
     clear BK264
     clear HB
     have HO270:=n0_
     have BK263:=n1_
     have BK264:=n2_
     have HB:=n3_
     clear n0_ n1_ n2_ n3_
     (try clear hb)
     (try clear hb2)
     (try clear hk)
     (try clear hi)
     (try clear ho0)
     obtain ⟨Ao31,co31,eo31⟩:=Kd.R_slice HO270.out
     (first | subst eo31 | (injection eo31 with f1_ f2_ f3_;have f4_:=f1_.symm;have f5_:=f3_.symm;clear f1_ f2_ f3_;subst f4_;subst f5_))
     refine hK.out _ _ ⟨(blk_cell BK263.out 0).trans rfl,(blk_cell BK263.out 1).trans rfl,(blk_cell BK264.out 0).trans rfl,(blk_cell BK264.out 1).trans rfl⟩ (fun hHeld => ?_)
     clear hK K
     refine norm_ (a':=?_) ?_ ?_
     rotate_left
     ·show Act.put _ (some 26) _ = _
      simp only [Act.put,List.setIfInBounds_toArray,List.set_cons_zero,List.set_cons_succ,i64_w,i32_w]
      rfl
     refine one_ (i:=4) (N:=some 28) #[true,true,true,true,true,false] rfl rfl (by kernel_rfl) (by decide) (fun K hK => ?_)
     refine goes_ Try.func17 (by kernel_rfl) rfl #[.slice Ao31 t268.length co31,.agg #[.int .u64 a2_0,.int .u64 a2_1]] (by rfl) rfl rfl (by (try simp only [List.map_toArray,List.map_cons,List.map_nil]);first | done | rfl | (simp only [List.length_drop,List.length_take];rfl)) ?_
     with_reducible refine (span_Add.calls kj4 _ _ t268 a2_0 a2_1 t271 _ ?side1 ?side2 A15.out).mono ?_
     (case side1 => repeat (first | exact (Kd.R_reads' HO270.out).2.2 | (with_reducible refine Kd.C_alloc ?_ _) | (with_reducible refine Kd.C_drewN ?_ _) | (with_reducible refine Kd.C_drew ?_)))
     (case side2 => exact (Kd.R_reads' HO270.out).2.1)
     rintro e w32 ⟨v272,rfl,ho0,hb⟩
     refine ⟨_,rfl,?_⟩
     have n0_:=Aside0.mk (Kd.R_elder' (by (with_reducible repeat (first | apply Kd.R_alloc | apply Kd.R_drewN | apply Kd.R_drew));exact HO270.out) (Kd.R_base ho0) hb)
     have n1_:=Aside0.mk (Kd.R_lower (Kd.R_newB (Kd.R_newB (Kd.R_new' ho0 (Kd.R_lt (by (with_reducible repeat (first | apply Kd.R_alloc | apply Kd.R_drewN | apply Kd.R_drew));exact HO270.out))) (g:=gb263) (o:=.cells #[.int .u64 a1_0,.int .u64 a1_1] 25 (0,0)) (by (with_reducible repeat (first | refine blk_drewN ?_ _ | refine blk_drew ?_ | refine blk_alloc ?_ _));exact BK263.out)) (g:=gb264) (o:=.cells #[.int .u64 a2_0,.int .u64 a2_1] 25 (0,0)) (by (with_reducible repeat (first | refine blk_drewN ?_ _ | refine blk_drew ?_ | refine blk_alloc ?_ _));exact BK264.out)) (below_size (by repeat (first | (with_reducible first | exact HB.out | apply below_alloc | apply pw_below_drewN | apply below_drew1 | refine below_set ?_ GE263.out | refine below_set ?_ GE264.out) | exact HB.out))))
     have n2_:=Aside0.mk (blk_below (g:=gb263) (o:=.cells #[.int .u64 a1_0,.int .u64 a1_1] 25 (0,0)) (by (with_reducible repeat (first | refine blk_drewN ?_ _ | refine blk_drew ?_ | refine blk_alloc ?_ _));exact BK263.out) hb)
     have n3_:=Aside0.mk (blk_below (g:=gb264) (o:=.cells #[.int .u64 a2_0,.int .u64 a2_1] 25 (0,0)) (by (with_reducible repeat (first | refine blk_drewN ?_ _ | refine blk_drew ?_ | refine blk_alloc ?_ _));exact BK264.out) hb)
     have n4_:=Aside0.mk (below_step (by repeat (first | (with_reducible first | exact HB.out | apply below_alloc | apply pw_below_drewN | apply below_drew1 | refine below_set ?_ GE263.out | refine below_set ?_ GE264.out) | exact HB.out)) hb)
     clear HO270
     clear BK263
     clear BK264
     clear HB
     have HO270:=n0_
     have HO273:=n1_
     have BK263:=n2_
     have BK264:=n3_
     have HB:=n4_
     clear n0_ n1_ n2_ n3_ n4_
     (try clear hb)
     (try clear hb2)
     (try clear hk)
     (try clear hi)
     (try clear ho0)
     refine hK.out _ _ ⟨(blk_cell BK263.out 0).trans rfl,(blk_cell BK263.out 1).trans rfl,(blk_cell BK264.out 0).trans rfl,(blk_cell BK264.out 1).trans rfl⟩ (fun hHeld => ?_)
     clear hK K
     refine norm_ (a':=?_) ?_ ?_
     rotate_left
     ·show Act.put _ (some 28) _ = _
      simp only [Act.put,List.setIfInBounds_toArray,List.set_cons_zero,List.set_cons_succ,i64_w,i32_w]
      rfl
     refine pure_ (i:=5) (N:=some 8) (v:=?_) (a':=?_) #[true,true,true,true,true,true] rfl rfl (by kernel_rfl) (fun _ _ _ h => h) (Or.inl ⟨by rfl,?_⟩) ?_ ?_
     rotate_left
     ·intro w'
      go_simp
      with_reducible rfl
     rotate_left
     ·simp only [Act.put,List.setIfInBounds_toArray,List.set_cons_zero,List.set_cons_succ,i64_w,i32_w]
      rfl
     refine done_ (by kernel_rfl) ?_
     try go_wp2
     have n0_:=Aside0.mk (Kd.R_drew HO270.out)
     have n1_:=Aside0.mk (Kd.R_drew HO273.out)
     have n2_:=Aside0.mk (blk_drew BK263.out)
     have n3_:=Aside0.mk (blk_drew BK264.out)
     have n4_:=Aside0.mk (below_drew1 HB.out)
     clear HO270
     clear HO273
     clear BK263
     clear BK264
     clear HB
     have HO270:=n0_
     have HO273:=n1_
     have BK263:=n2_
     have BK264:=n3_
     have HB:=n4_
     clear n0_ n1_ n2_ n3_ n4_
     refine start_ (n:=6) (S:=fun w' => w'.cell? ⟨gb264,0,none⟩ = some (.int .u64 a2_0) ∧ w'.cell? ⟨gb264,1,none⟩ = some (.int .u64 a2_1) ∧ w'.cell? ⟨gb263,0,none⟩ = some (.int .u64 a1_0) ∧ w'.cell? ⟨gb263,1,none⟩ = some (.int .u64 a1_1)) (ds:=[]) #[false,false,false,false,false,false] (by kernel_rfl) rfl rfl ⟨(blk_cell BK264.out 0).trans rfl,(blk_cell BK264.out 1).trans rfl,(blk_cell BK263.out 0).trans rfl,(blk_cell BK263.out 1).trans rfl⟩ (fun hHeld => ?_)
     generalize w32.drew = w33 at HO270 HO273 BK263 BK264 HB hHeld ⊢
     refine pure_ (i:=0) (N:=some 29) (v:=?_) (a':=?_) #[true,false,false,false,false,false] rfl rfl (by kernel_rfl) (fun _ _ _ h => h) (Or.inl ⟨by rfl,?_⟩) ?_ ?_
     rotate_left
     ·intro w'
      go_simp
      with_reducible rfl
     rotate_left
     ·simp only [Act.put,List.setIfInBounds_toArray,List.set_cons_zero,List.set_cons_succ,i64_w,i32_w]
      rfl
     refine take_ (i:=1) (N:=some 30) (v:=?_) (a':=?_) #[true,true,false,false,false,false] rfl rfl (by kernel_rfl) (fun _ _ _ h => h) (Or.inl ⟨by rfl,?_⟩) hHeld ?_ ?_
     rotate_left
     ·rintro w' ⟨s0,s1,s2,s3⟩
      go_simp
      with_reducible rfl
     rotate_left
     ·simp only [Act.put,List.setIfInBounds_toArray,List.set_cons_zero,List.set_cons_succ,i64_w,i32_w]
      rfl
     refine take_ (i:=3) (N:=some 32) (v:=?_) (a':=?_) #[true,true,false,true,false,false] rfl rfl (by kernel_rfl) (fun _ _ _ h => h) (Or.inl ⟨by rfl,?_⟩) hHeld ?_ ?_
     rotate_left
     ·rintro w' ⟨s0,s1,s2,s3⟩
      go_simp
      with_reducible rfl
     rotate_left
     ·simp only [Act.put,List.setIfInBounds_toArray,List.set_cons_zero,List.set_cons_succ,i64_w,i32_w]
      rfl
     refine one_ (i:=2) (N:=some 31) #[true,true,true,true,false,false] rfl rfl (by kernel_rfl) (by decide) (fun K hK => ?_)
     refine goes_ Try.func17 (by kernel_rfl) rfl #[.slice A0 l0.length c0,.agg #[.int .u64 a2_0,.int .u64 a2_1]] (by rfl) rfl rfl (by (try simp only [List.map_toArray,List.map_cons,List.map_nil]);first | done | rfl | (simp only [List.length_drop,List.length_take];rfl)) ?_
     with_reducible refine (span_Add.calls kj4 _ _ l0 a2_0 a2_1 t274 _ ?side1 ?side2 A16.out).mono ?_
     (case side1 => repeat (first | exact (Kd.C_below HR0.out HB.out) | (with_reducible refine Kd.C_alloc ?_ _) | (with_reducible refine Kd.C_drewN ?_ _) | (with_reducible refine Kd.C_drew ?_)))
     (case side2 => exact HC0.out)
     rintro e w34 ⟨v275,rfl,ho0,hb⟩
     refine ⟨_,rfl,?_⟩
     have n0_:=Aside0.mk (Kd.R_elder' (by (with_reducible repeat (first | apply Kd.R_alloc | apply Kd.R_drewN | apply Kd.R_drew));exact HO270.out) (Kd.R_base ho0) hb)
     have n1_:=Aside0.mk (Kd.R_elder' (by (with_reducible repeat (first | apply Kd.R_alloc | apply Kd.R_drewN | apply Kd.R_drew));exact HO273.out) (Kd.R_base ho0) hb)
     have n2_:=Aside0.mk (Kd.R_lower (Kd.R_newB (Kd.R_newB (Kd.R_new' (Kd.R_new' ho0 (Kd.R_lt (by (with_reducible repeat (first | apply Kd.R_alloc | apply Kd.R_drewN | apply Kd.R_drew));exact HO270.out))) (Kd.R_lt (by (with_reducible repeat (first | apply Kd.R_alloc | apply Kd.R_drewN | apply Kd.R_drew));exact HO273.out))) (g:=gb263) (o:=.cells #[.int .u64 a1_0,.int .u64 a1_1] 25 (0,0)) (by (with_reducible repeat (first | refine blk_drewN ?_ _ | refine blk_drew ?_ | refine blk_alloc ?_ _));exact BK263.out)) (g:=gb264) (o:=.cells #[.int .u64 a2_0,.int .u64 a2_1] 25 (0,0)) (by (with_reducible repeat (first | refine blk_drewN ?_ _ | refine blk_drew ?_ | refine blk_alloc ?_ _));exact BK264.out)) (below_size (by repeat (first | (with_reducible first | exact HB.out | apply below_alloc | apply pw_below_drewN | apply below_drew1 | refine below_set ?_ GE263.out | refine below_set ?_ GE264.out) | exact HB.out))))
     have n3_:=Aside0.mk (blk_below (g:=gb263) (o:=.cells #[.int .u64 a1_0,.int .u64 a1_1] 25 (0,0)) (by (with_reducible repeat (first | refine blk_drewN ?_ _ | refine blk_drew ?_ | refine blk_alloc ?_ _));exact BK263.out) hb)
     have n4_:=Aside0.mk (blk_below (g:=gb264) (o:=.cells #[.int .u64 a2_0,.int .u64 a2_1] 25 (0,0)) (by (with_reducible repeat (first | refine blk_drewN ?_ _ | refine blk_drew ?_ | refine blk_alloc ?_ _));exact BK264.out) hb)
     have n5_:=Aside0.mk (below_step (by repeat (first | (with_reducible first | exact HB.out | apply below_alloc | apply pw_below_drewN | apply below_drew1 | refine below_set ?_ GE263.out | refine below_set ?_ GE264.out) | exact HB.out)) hb)
     clear HO270
     clear HO273
     clear BK263
     clear BK264
     clear HB
     have HO270:=n0_
     have HO273:=n1_
     have HO276:=n2_
     have BK263:=n3_
     have BK264:=n4_
     have HB:=n5_
     clear n0_ n1_ n2_ n3_ n4_ n5_
     (try clear hb)
     (try clear hb2)
     (try clear hk)
     (try clear hi)
     (try clear ho0)
     obtain ⟨Ao35,co35,eo35⟩:=Kd.R_slice HO276.out
     (first | subst eo35 | (injection eo35 with f1_ f2_ f3_;have f4_:=f1_.symm;have f5_:=f3_.symm;clear f1_ f2_ f3_;subst f4_;subst f5_))
     refine hK.out _ _ ⟨(blk_cell BK264.out 0).trans rfl,(blk_cell BK264.out 1).trans rfl,(blk_cell BK263.out 0).trans rfl,(blk_cell BK263.out 1).trans rfl⟩ (fun hHeld => ?_)
     clear hK K
     refine norm_ (a':=?_) ?_ ?_
     rotate_left
     ·show Act.put _ (some 31) _ = _
      simp only [Act.put,List.setIfInBounds_toArray,List.set_cons_zero,List.set_cons_succ,i64_w,i32_w]
      rfl
     refine one_ (i:=4) (N:=some 33) #[true,true,true,true,true,false] rfl rfl (by kernel_rfl) (by decide) (fun K hK => ?_)
     refine goes_ Try.func17 (by kernel_rfl) rfl #[.slice Ao35 t274.length co35,.agg #[.int .u64 a1_0,.int .u64 a1_1]] (by rfl) rfl rfl (by (try simp only [List.map_toArray,List.map_cons,List.map_nil]);first | done | rfl | (simp only [List.length_drop,List.length_take];rfl)) ?_
     with_reducible refine (span_Add.calls kj4 _ _ t274 a1_0 a1_1 t277 _ ?side1 ?side2 A17.out).mono ?_
     (case side1 => repeat (first | exact (Kd.R_reads' HO276.out).2.2 | (with_reducible refine Kd.C_alloc ?_ _) | (with_reducible refine Kd.C_drewN ?_ _) | (with_reducible refine Kd.C_drew ?_)))
     (case side2 => exact (Kd.R_reads' HO276.out).2.1)
     rintro e w36 ⟨v278,rfl,ho0,hb⟩
     refine ⟨_,rfl,?_⟩
     have n0_:=Aside0.mk (Kd.R_elder' (by (with_reducible repeat (first | apply Kd.R_alloc | apply Kd.R_drewN | apply Kd.R_drew));exact HO270.out) (Kd.R_base ho0) hb)
     have n1_:=Aside0.mk (Kd.R_elder' (by (with_reducible repeat (first | apply Kd.R_alloc | apply Kd.R_drewN | apply Kd.R_drew));exact HO273.out) (Kd.R_base ho0) hb)
     have n2_:=Aside0.mk (Kd.R_elder' (by (with_reducible repeat (first | apply Kd.R_alloc | apply Kd.R_drewN | apply Kd.R_drew));exact HO276.out) (Kd.R_base ho0) hb)
     have n3_:=Aside0.mk (Kd.R_lower (Kd.R_newB (Kd.R_newB (Kd.R_new' (Kd.R_new' (Kd.R_new' ho0 (Kd.R_lt (by (with_reducible repeat (first | apply Kd.R_alloc | apply Kd.R_drewN | apply Kd.R_drew));exact HO270.out))) (Kd.R_lt (by (with_reducible repeat (first | apply Kd.R_alloc | apply Kd.R_drewN | apply Kd.R_drew));exact HO273.out))) (Kd.R_lt (by (with_reducible repeat (first | apply Kd.R_alloc | apply Kd.R_drewN | apply Kd.R_drew));exact HO276.out))) (g:=gb263) (o:=.cells #[.int .u64 a1_0,.int .u64 a1_1] 25 (0,0)) (by (with_reducible repeat (first | refine blk_drewN ?_ _ | refine blk_drew ?_ | refine blk_alloc ?_ _));exact BK263.out)) (g:=gb264) (o:=.cells #[.int .u64 a2_0,.int .u64 a2_1] 25 (0,0)) (by (with_reducible repeat (first | refine blk_drewN ?_ _ | refine blk_drew ?_ | refine blk_alloc ?_ _));exact BK264.out)) (below_size (by repeat (first | (with_reducible first | exact HB.out | apply below_alloc | apply pw_below_drewN | apply below_drew1 | refine below_set ?_ GE263.out | refine below_set ?_ GE264.out) | exact HB.out))))
     have n4_:=Aside0.mk (blk_below (g:=gb263) (o:=.cells #[.int .u64 a1_0,.int .u64 a1_1] 25 (0,0)) (by (with_reducible repeat (first | refine blk_drewN ?_ _ | refine blk_drew ?_ | refine blk_alloc ?_ _));exact BK263.out) hb)
     have n5_:=Aside0.mk (blk_below (g:=gb264) (o:=.cells #[.int .u64 a2_0,.int .u64 a2_1] 25 (0,0)) (by (with_reducible repeat (first | refine blk_drewN ?_ _ | refine blk_drew ?_ | refine blk_alloc ?_ _));exact BK264.out) hb)
     have n6_:=Aside0.mk (below_step (by repeat (first | (with_reducible first | exact HB.out | apply below_alloc | apply pw_below_drewN | apply below_drew1 | refine below_set ?_ GE263.out | refine below_set ?_ GE264.out) | exact HB.out)) hb)
     clear HO270
     clear HO273
     clear HO276
     clear BK263
     clear BK264
     clear HB
     have HO270:=n0_
     have HO273:=n1_
     have HO276:=n2_
     have HO279:=n3_
     have BK263:=n4_
     have BK264:=n5_
     have HB:=n6_
     clear n0_ n1_ n2_ n3_ n4_ n5_ n6_
     (try clear hb)
     (try clear hb2)
     (try clear hk)
     (try clear hi)
     (try clear ho0)
     refine hK.out _ _ ⟨(blk_cell BK264.out 0).trans rfl,(blk_cell BK264.out 1).trans rfl,(blk_cell BK263.out 0).trans rfl,(blk_cell BK263.out 1).trans rfl⟩ (fun hHeld => ?_)
     clear hK K
     refine norm_ (a':=?_) ?_ ?_
     rotate_left
     ·show Act.put _ (some 33) _ = _
      simp only [Act.put,List.setIfInBounds_toArray,List.set_cons_zero,List.set_cons_succ,i64_w,i32_w]
      rfl
     refine pure_ (i:=5) (N:=some 9) (v:=?_) (a':=?_) #[true,true,true,true,true,true] rfl rfl (by kernel_rfl) (fun _ _ _ h => h) (Or.inl ⟨by rfl,?_⟩) ?_ ?_
     rotate_left
     ·intro w'
      go_simp
      with_reducible rfl
     rotate_left
     ·simp only [Act.put,List.setIfInBounds_toArray,List.set_cons_zero,List.set_cons_succ,i64_w,i32_w]
      rfl
     refine done_ (by kernel_rfl) ?_
     obtain ⟨Ao37,co37,eo37⟩:=Kd.R_slice HO273.out
     subst eo37
     obtain ⟨Ao38,co38,eo38⟩:=Kd.R_slice HO279.out
     subst eo38
     try go_wp2_with (first | ((with_reducible refine gate_callee (f:=16) rfl ?_);refine goesL_ (some 36) rfl rfl Try.func16 (by kernel_rfl) rfl #[.slice Ao37 t271.length co37,.slice Ao38 t277.length co38] rfl (by (try simp only [List.map_toArray,List.map_cons,List.map_nil]);first | done | rfl | (simp only [List.length_drop,List.length_take];rfl)) ?_;(with_reducible refine (wigwagref07_Same.calls kj4 _ _ t271 _ _ t277 t280 _ ?side1 ?side2 ?side3 ?side4 A18.out).mono ?_);(case side1 => repeat (first | exact (Kd.R_reads' HO273.out).2.2 | (with_reducible refine Kd.C_alloc ?_ _) | (with_reducible refine Kd.C_drewN ?_ _) | (with_reducible refine Kd.C_drew ?_)));(case side2 => exact (Kd.R_reads' HO273.out).2.1);(case side3 => repeat (first | exact (Kd.R_reads' HO279.out).2.2 | (with_reducible refine Kd.C_alloc ?_ _) | (with_reducible refine Kd.C_drewN ?_ _) | (with_reducible refine Kd.C_drew ?_)));(case side4 => exact (Kd.R_reads' HO279.out).2.1);rintro e w' ⟨rfl,⟨nd,rfl⟩⟩;refine ⟨_,rfl,?_⟩;have hnb39:=NB263_264.out;have hnc39:=NB264_263.out;have hcz40_0 : w36.cell? ⟨gb263,0,none⟩ = some (.int .u64 a1_0):=(blk_cell BK263.out 0).trans rfl;have hcz40_1 : w36.cell? ⟨gb263,1,none⟩ = some (.int .u64 a1_1):=(blk_cell BK263.out 1).trans rfl;have hfz40_0:=blk_frozen BK263.out 0;have hfz40_1:=blk_frozen BK263.out 1) | ((with_reducible refine gate_callee (f:=17) rfl ?_);refine goesL_ (some 39) rfl rfl Try.func17 (by kernel_rfl) rfl #[.slice Ao37 t271.length co37,.agg #[.int .u64 a1_0,.int .u64 a1_1]] rfl (by (try simp only [List.map_toArray,List.map_cons,List.map_nil]);first | done | rfl | (simp only [List.length_drop,List.length_take];rfl)) ?_;(with_reducible refine (span_Add.calls kj4 _ _ t271 a1_0 a1_1 t281 _ ?side1 ?side2 A19.out).mono ?_);(case side1 => repeat (first | exact (Kd.R_reads' HO273.out).2.2 | (with_reducible refine Kd.C_alloc ?_ _) | (with_reducible refine Kd.C_drewN ?_ _) | (with_reducible refine Kd.C_drew ?_)));(case side2 => exact (Kd.R_reads' HO273.out).2.1);rintro e w41 ⟨v282,rfl,ho0,hb⟩;refine ⟨_,rfl,?_⟩;have n0_:=Aside0.mk (Kd.R_elder' (by (with_reducible repeat (first | apply Kd.R_alloc | apply Kd.R_drewN | apply Kd.R_drew));exact HO270.out) (Kd.R_base ho0) hb);have n1_:=Aside0.mk (Kd.R_elder' (by (with_reducible repeat (first | apply Kd.R_alloc | apply Kd.R_drewN | apply Kd.R_drew));exact HO273.out) (Kd.R_base ho0) hb);have n2_:=Aside0.mk (Kd.R_elder' (by (with_reducible repeat (first | apply Kd.R_alloc | apply Kd.R_drewN | apply Kd.R_drew));exact HO276.out) (Kd.R_base ho0) hb);have n3_:=Aside0.mk (Kd.R_elder' (by (with_reducible repeat (first | apply Kd.R_alloc | apply Kd.R_drewN | apply Kd.R_drew));exact HO279.out) (Kd.R_base ho0) hb);have n4_:=Aside0.mk (Kd.R_lower (Kd.R_newB (Kd.R_newB (Kd.R_new' (Kd.R_new' (Kd.R_new' (Kd.R_new' ho0 (Kd.R_lt (by (with_reducible repeat (first | apply Kd.R_alloc | apply Kd.R_drewN | apply Kd.R_drew));exact HO270.out))) (Kd.R_lt (by (with_reducible repeat (first | apply Kd.R_alloc | apply Kd.R_drewN | apply Kd.R_drew));exact HO273.out))) (Kd.R_lt (by (with_reducible repeat (first | apply Kd.R_alloc | apply Kd.R_drewN | apply Kd.R_drew));exact HO276.out))) (Kd.R_lt (by (with_reducible repeat (first | apply Kd.R_alloc | apply Kd.R_drewN | apply Kd.R_drew));exact HO279.out))) (g:=gb263) (o:=.cells #[.int .u64 a1_0,.int .u64 a1_1] 25 (0,0)) (by (with_reducible repeat (first | refine blk_drewN ?_ _ | refine blk_drew ?_ | refine blk_alloc ?_ _));exact BK263.out)) (g:=gb264) (o:=.cells #[.int .u64 a2_0,.int .u64 a2_1] 25 (0,0)) (by (with_reducible repeat (first | refine blk_drewN ?_ _ | refine blk_drew ?_ | refine blk_alloc ?_ _));exact BK264.out)) (below_size (by repeat (first | (with_reducible first | exact HB.out | apply below_alloc | apply pw_below_drewN | apply below_drew1 | refine below_set ?_ GE263.out | refine below_set ?_ GE264.out) | exact HB.out))));have n5_:=Aside0.mk (blk_below (g:=gb263) (o:=.cells #[.int .u64 a1_0,.int .u64 a1_1] 25 (0,0)) (by (with_reducible repeat (first | refine blk_drewN ?_ _ | refine blk_drew ?_ | refine blk_alloc ?_ _));exact BK263.out) hb);have n6_:=Aside0.mk (blk_below (g:=gb264) (o:=.cells #[.int .u64 a2_0,.int .u64 a2_1] 25 (0,0)) (by (with_reducible repeat (first | refine blk_drewN ?_ _ | refine blk_drew ?_ | refine blk_alloc ?_ _));exact BK264.out) hb);have n7_:=Aside0.mk (below_step (by repeat (first | (with_reducible first | exact HB.out | apply below_alloc | apply pw_below_drewN | apply below_drew1 | refine below_set ?_ GE263.out | refine below_set ?_ GE264.out) | exact HB.out)) hb);clear HO270;clear HO273;clear HO276;clear HO279;clear BK263;clear BK264;clear HB;have HO270:=n0_;have HO273:=n1_;have HO276:=n2_;have HO279:=n3_;have HO283:=n4_;have BK263:=n5_;have BK264:=n6_;have HB:=n7_;clear n0_ n1_ n2_ n3_ n4_ n5_ n6_ n7_;(try clear hb);(try clear hb2);(try clear hk);(try clear hi);(try clear ho0);obtain ⟨Ao42,co42,eo42⟩:=Kd.R_slice HO283.out;subst eo42) | ((with_reducible refine gate_callee (f:=16) rfl ?_);refine goesL_ (some 41) rfl rfl Try.func16 (by kernel_rfl) rfl #[.slice Ao42 t281.length co42,.slice Ao37 t271.length co37] rfl (by (try simp only [List.map_toArray,List.map_cons,List.map_nil]);first | done | rfl | (simp only [List.length_drop,List.length_take];rfl)) ?_;(with_reducible refine (wigwagref07_Same.calls kj4 _ _ t281 _ _ t271 t284 _ ?side1 ?side2 ?side3 ?side4 A20.out).mono ?_);(case side1 => repeat (first | exact (Kd.R_reads' HO283.out).2.2 | (with_reducible refine Kd.C_alloc ?_ _) | (with_reducible refine Kd.C_drewN ?_ _) | (with_reducible refine Kd.C_drew ?_)));(case side2 => exact (Kd.R_reads' HO283.out).2.1);(case side3 => repeat (first | exact (Kd.R_reads' HO273.out).2.2 | (with_reducible refine Kd.C_alloc ?_ _) | (with_reducible refine Kd.C_drewN ?_ _) | (with_reducible refine Kd.C_drew ?_)));(case side4 => exact (Kd.R_reads' HO273.out).2.1);rintro e w' ⟨rfl,⟨nd,rfl⟩⟩;refine ⟨_,rfl,?_⟩))
     (try (rw [drewN_self w41];generalize hq_ : World.drewN w41 _ = w41;have n0_ : Aside0 (Kd.R k25 25 w41 w.heap.size (fun k_ => some k_ ≠ (.slice Ao37 t271.length co37 : Value).ownBlock ∧ some k_ ≠ (.slice Ao35 t274.length co35 : Value).ownBlock ∧ some k_ ≠ (.slice Ao38 t277.length co38 : Value).ownBlock ∧ some k_ ≠ (.slice Ao42 t281.length co42 : Value).ownBlock ∧ k_ ≠ gb263 ∧ k_ ≠ gb264) (.slice Ao31 t268.length co31) t268):=⟨by rw [← hq_];exact (by (with_reducible repeat (first | apply Kd.R_alloc | apply Kd.R_drewN | apply Kd.R_drew));exact Kd.R_mono HO270.out (fun _ hk => (by first | exact ⟨hk.1.1.1.2,⟨hk.1.1.2,⟨hk.1.2,⟨hk.2,⟨hk.1.1.1.1.1.2,hk.1.1.1.1.2⟩⟩⟩⟩⟩ | simp_all)))⟩;have n1_ : Aside0 (Kd.R k25 25 w41 w.heap.size (fun k_ => some k_ ≠ (.slice Ao31 t268.length co31 : Value).ownBlock ∧ some k_ ≠ (.slice Ao35 t274.length co35 : Value).ownBlock ∧ some k_ ≠ (.slice Ao38 t277.length co38 : Value).ownBlock ∧ some k_ ≠ (.slice Ao42 t281.length co42 : Value).ownBlock ∧ k_ ≠ gb263 ∧ k_ ≠ gb264) (.slice Ao37 t271.length co37) t271):=⟨by rw [← hq_];exact (by (with_reducible repeat (first | apply Kd.R_alloc | apply Kd.R_drewN | apply Kd.R_drew));exact Kd.R_mono HO273.out (fun _ hk => (by first | exact ⟨hk.1.1.1.1.1.2,⟨hk.1.1.2,⟨hk.1.2,⟨hk.2,⟨hk.1.1.1.1.2,hk.1.1.1.2⟩⟩⟩⟩⟩ | simp_all)))⟩;have n2_ : Aside0 (Kd.R k25 25 w41 w.heap.size (fun k_ => some k_ ≠ (.slice Ao31 t268.length co31 : Value).ownBlock ∧ some k_ ≠ (.slice Ao37 t271.length co37 : Value).ownBlock ∧ some k_ ≠ (.slice Ao38 t277.length co38 : Value).ownBlock ∧ some k_ ≠ (.slice Ao42 t281.length co42 : Value).ownBlock ∧ k_ ≠ gb263 ∧ k_ ≠ gb264) (.slice Ao35 t274.length co35) t274):=⟨by rw [← hq_];exact (by (with_reducible repeat (first | apply Kd.R_alloc | apply Kd.R_drewN | apply Kd.R_drew));exact Kd.R_mono HO276.out (fun _ hk => (by first | exact ⟨hk.1.1.1.1.1.2,⟨hk.1.1.1.1.2,⟨hk.1.2,⟨hk.2,⟨hk.1.1.1.2,hk.1.1.2⟩⟩⟩⟩⟩ | simp_all)))⟩;have n3_ : Aside0 (Kd.R k25 25 w41 w.heap.size (fun k_ => some k_ ≠ (.slice Ao31 t268.length co31 : Value).ownBlock ∧ some k_ ≠ (.slice Ao37 t271.length co37 : Value).ownBlock ∧ some k_ ≠ (.slice Ao35 t274.length co35 : Value).ownBlock ∧ some k_ ≠ (.slice Ao42 t281.length co42 : Value).ownBlock ∧ k_ ≠ gb263 ∧ k_ ≠ gb264) (.slice Ao38 t277.length co38) t277):=⟨by rw [← hq_];exact (by (with_reducible repeat (first | apply Kd.R_alloc | apply Kd.R_drewN | apply Kd.R_drew));exact Kd.R_mono HO279.out (fun _ hk => (by first | exact ⟨hk.1.1.1.1.1.2,⟨hk.1.1.1.1.2,⟨hk.1.1.1.2,⟨hk.2,⟨hk.1.1.2,hk.1.2⟩⟩⟩⟩⟩ | simp_all)))⟩;have n4_ : Aside0 (Kd.R k25 25 w41 w.heap.size (fun k_ => some k_ ≠ (.slice Ao31 t268.length co31 : Value).ownBlock ∧ some k_ ≠ (.slice Ao37 t271.length co37 : Value).ownBlock ∧ some k_ ≠ (.slice Ao35 t274.length co35 : Value).ownBlock ∧ some k_ ≠ (.slice Ao38 t277.length co38 : Value).ownBlock ∧ k_ ≠ gb263 ∧ k_ ≠ gb264) (.slice Ao42 t281.length co42) t281):=⟨by rw [← hq_];exact (by (with_reducible repeat (first | apply Kd.R_alloc | apply Kd.R_drewN | apply Kd.R_drew));exact Kd.R_mono HO283.out (fun _ hk => (by first | exact ⟨hk.1.1.1.1.1.2,⟨hk.1.1.1.1.2,⟨hk.1.1.1.2,⟨hk.1.1.2,⟨hk.1.2,hk.2⟩⟩⟩⟩⟩ | simp_all)))⟩;have n5_ : Aside0 (w41.heap[gb263]? = some (.cells #[.int .u64 a1_0,.int .u64 a1_1] 25 (0,0))):=⟨by rw [← hq_];exact (by (with_reducible repeat (first | refine blk_drewN ?_ _ | refine blk_drew ?_ | refine blk_alloc ?_ _));exact BK263.out)⟩;have n6_ : Aside0 (w41.heap[gb264]? = some (.cells #[.int .u64 a2_0,.int .u64 a2_1] 25 (0,0))):=⟨by rw [← hq_];exact (by (with_reducible repeat (first | refine blk_drewN ?_ _ | refine blk_drew ?_ | refine blk_alloc ?_ _));exact BK264.out)⟩;have n7_ : Aside0 (Below w.heap.size w w41):=⟨by rw [← hq_];exact (by repeat (first | (with_reducible first | exact HB.out | apply below_alloc | apply pw_below_drewN | apply below_drew1 | refine below_set ?_ GE263.out | refine below_set ?_ GE264.out) | exact HB.out))⟩;clear HO270 HO273 HO276 HO279 HO283 BK263 BK264 HB hq_;have HO270:=n0_;have HO273:=n1_;have HO276:=n2_;have HO279:=n3_;have HO283:=n4_;have BK263:=n5_;have BK264:=n6_;have HB:=n7_;clear n0_ n1_ n2_ n3_ n4_ n5_ n6_ n7_))
     have n0_:=Aside0.mk (Kd.R_drew HO270.out)
     have n1_:=Aside0.mk (Kd.R_drew HO273.out)
     have n2_:=Aside0.mk (Kd.R_drew HO276.out)
     have n3_:=Aside0.mk (Kd.R_drew HO279.out)
     have n4_:=Aside0.mk (Kd.R_drew HO283.out)
     have n5_:=Aside0.mk (blk_drew BK263.out)
     have n6_:=Aside0.mk (blk_drew BK264.out)
     have n7_:=Aside0.mk (below_drew1 HB.out)
     clear HO270
     clear HO273
     clear HO276
     clear HO279
     clear HO283
     clear BK263
     clear BK264
     clear HB
     have HO270:=n0_
     have HO273:=n1_
     have HO276:=n2_
     have HO279:=n3_
     have HO283:=n4_
     have BK263:=n5_
     have BK264:=n6_
     have HB:=n7_
     clear n0_ n1_ n2_ n3_ n4_ n5_ n6_ n7_
     refine start_ (n:=10) (S:=fun w' => w'.cell? ⟨gb263,0,none⟩ = some (.int .u64 a1_0) ∧ w'.cell? ⟨gb263,1,none⟩ = some (.int .u64 a1_1)) (ds:=[]) #[false,false,false,false,false,false,false,false,false,false] (by kernel_rfl) rfl rfl ⟨(blk_cell BK263.out 0).trans rfl,(blk_cell BK263.out 1).trans rfl⟩ (fun hHeld => ?_);refine with_tabW wigwaglaw07_SpanOrder.tab8 wigwaglaw07_SpanOrder.bits8 (fun HT_ HW_ => ?_)
     generalize w41.drew = w43 at HO270 HO273 HO276 HO279 HO283 BK263 BK264 HB hHeld ⊢
     refine pure_ (i:=0) (N:=some 42) (v:=?_) (a':=?_) #[true,false,false,false,false,false,false,false,false,false] rfl rfl (any_of HT_.out (by kernel_rfl)) (fun _ _ _ h => h) (Or.inl ⟨by rfl,?_⟩) ?_ ?_
     rotate_left
     ·intro w'
      go_simp
      with_reducible rfl
     rotate_left
     ·simp only [Act.put,List.setIfInBounds_toArray,List.set_cons_zero,List.set_cons_succ,i64_w,i32_w]
      rfl
     refine pure_ (i:=5) (N:=some 47) (v:=?_) (a':=?_) #[true,false,false,false,false,true,false,false,false,false] rfl rfl (any_of HT_.out (by kernel_rfl)) (fun _ _ _ h => h) (Or.inl ⟨by rfl,?_⟩) ?_ ?_
     rotate_left
     ·intro w'
      go_simp
      with_reducible rfl
     rotate_left
     ·simp only [Act.put,List.setIfInBounds_toArray,List.set_cons_zero,List.set_cons_succ,i64_w,i32_w]
      rfl
     refine take_ (i:=1) (N:=some 43) (v:=?_) (a':=?_) #[true,true,false,false,false,true,false,false,false,false] rfl rfl (take_ofW HT_.out HW_.out (by kernel_rfl)) (fun _ _ _ h => h) (Or.inl ⟨by rfl,?_⟩) hHeld ?_ ?_
     rotate_left
     ·rintro w' ⟨s0,s1⟩
      go_simp
      with_reducible rfl
     rotate_left
     ·simp only [Act.put,List.setIfInBounds_toArray,List.set_cons_zero,List.set_cons_succ,i64_w,i32_w]
      rfl
     refine take_ (i:=3) (N:=some 45) (v:=?_) (a':=?_) #[true,true,false,true,false,true,false,false,false,false] rfl rfl (take_ofW HT_.out HW_.out (by kernel_rfl)) (fun _ _ _ h => h) (Or.inl ⟨by rfl,?_⟩) hHeld ?_ ?_
     rotate_left
     ·rintro w' ⟨s0,s1⟩
      go_simp
      with_reducible rfl
     rotate_left
     ·simp only [Act.put,List.setIfInBounds_toArray,List.set_cons_zero,List.set_cons_succ,i64_w,i32_w]
      rfl
     refine take_ (i:=6) (N:=some 48) (v:=?_) (a':=?_) #[true,true,false,true,false,true,true,false,false,false] rfl rfl (take_ofW HT_.out HW_.out (by kernel_rfl)) (fun _ _ _ h => h) (Or.inl ⟨by rfl,?_⟩) hHeld ?_ ?_
     rotate_left
     ·rintro w' ⟨s0,s1⟩
      go_simp
      with_reducible rfl
     rotate_left
     ·simp only [Act.put,List.setIfInBounds_toArray,List.set_cons_zero,List.set_cons_succ,i64_w,i32_w]
      rfl
     refine one_ (i:=2) (N:=some 44) #[true,true,true,true,false,true,true,false,false,false] rfl rfl (one_of HT_.out (by kernel_rfl)) (by decide) (fun K hK => ?_)
     refine goes_ Try.func17 (by kernel_rfl) rfl #[.slice A0 l0.length c0,.agg #[.int .u64 a1_0,.int .u64 a1_1]] (by rfl) rfl rfl (by (try simp only [List.map_toArray,List.map_cons,List.map_nil]);first | done | rfl | (simp only [List.length_drop,List.length_take];rfl)) ?_
     with_reducible refine (span_Add.calls kj4 _ _ l0 a1_0 a1_1 t285 _ ?side1 ?side2 A21.out).mono ?_
     (case side1 => repeat (first | exact (Kd.C_below HR0.out HB.out) | (with_reducible refine Kd.C_alloc ?_ _) | (with_reducible refine Kd.C_drewN ?_ _) | (with_reducible refine Kd.C_drew ?_)))
     (case side2 => exact HC0.out)
     rintro e w44 ⟨v286,rfl,ho0,hb⟩
     refine ⟨_,rfl,?_⟩
     have n0_:=Aside0.mk (Kd.R_elder' (by (with_reducible repeat (first | apply Kd.R_alloc | apply Kd.R_drewN | apply Kd.R_drew));exact HO270.out) (Kd.R_base ho0) hb)
     have n1_:=Aside0.mk (Kd.R_elder' (by (with_reducible repeat (first | apply Kd.R_alloc | apply Kd.R_drewN | apply Kd.R_drew));exact HO273.out) (Kd.R_base ho0) hb)
     have n2_:=Aside0.mk (Kd.R_elder' (by (with_reducible repeat (first | apply Kd.R_alloc | apply Kd.R_drewN | apply Kd.R_drew));exact HO276.out) (Kd.R_base ho0) hb)
     have n3_:=Aside0.mk (Kd.R_elder' (by (with_reducible repeat (first | apply Kd.R_alloc | apply Kd.R_drewN | apply Kd.R_drew));exact HO279.out) (Kd.R_base ho0) hb)
     have n4_:=Aside0.mk (Kd.R_elder' (by (with_reducible repeat (first | apply Kd.R_alloc | apply Kd.R_drewN | apply Kd.R_drew));exact HO283.out) (Kd.R_base ho0) hb)
     have n5_:=Aside0.mk (Kd.R_lower (Kd.R_newB (Kd.R_newB (Kd.R_new' (Kd.R_new' (Kd.R_new' (Kd.R_new' (Kd.R_new' ho0 (Kd.R_lt (by (with_reducible repeat (first | apply Kd.R_alloc | apply Kd.R_drewN | apply Kd.R_drew));exact HO270.out))) (Kd.R_lt (by (with_reducible repeat (first | apply Kd.R_alloc | apply Kd.R_drewN | apply Kd.R_drew));exact HO273.out))) (Kd.R_lt (by (with_reducible repeat (first | apply Kd.R_alloc | apply Kd.R_drewN | apply Kd.R_drew));exact HO276.out))) (Kd.R_lt (by (with_reducible repeat (first | apply Kd.R_alloc | apply Kd.R_drewN | apply Kd.R_drew));exact HO279.out))) (Kd.R_lt (by (with_reducible repeat (first | apply Kd.R_alloc | apply Kd.R_drewN | apply Kd.R_drew));exact HO283.out))) (g:=gb263) (o:=.cells #[.int .u64 a1_0,.int .u64 a1_1] 25 (0,0)) (by (with_reducible repeat (first | refine blk_drewN ?_ _ | refine blk_drew ?_ | refine blk_alloc ?_ _));exact BK263.out)) (g:=gb264) (o:=.cells #[.int .u64 a2_0,.int .u64 a2_1] 25 (0,0)) (by (with_reducible repeat (first | refine blk_drewN ?_ _ | refine blk_drew ?_ | refine blk_alloc ?_ _));exact BK264.out)) (below_size (by repeat (first | (with_reducible first | exact HB.out | apply below_alloc | apply pw_below_drewN | apply below_drew1 | refine below_set ?_ GE263.out | refine below_set ?_ GE264.out) | exact HB.out))))
     have n6_:=Aside0.mk (blk_below (g:=gb263) (o:=.cells #[.int .u64 a1_0,.int .u64 a1_1] 25 (0,0)) (by (with_reducible repeat (first | refine blk_drewN ?_ _ | refine blk_drew ?_ | refine blk_alloc ?_ _));exact BK263.out) hb)
     have n7_:=Aside0.mk (blk_below (g:=gb264) (o:=.cells #[.int .u64 a2_0,.int .u64 a2_1] 25 (0,0)) (by (with_reducible repeat (first | refine blk_drewN ?_ _ | refine blk_drew ?_ | refine blk_alloc ?_ _));exact BK264.out) hb)
     have n8_:=Aside0.mk (below_step (by repeat (first | (with_reducible first | exact HB.out | apply below_alloc | apply pw_below_drewN | apply below_drew1 | refine below_set ?_ GE263.out | refine below_set ?_ GE264.out) | exact HB.out)) hb)
     clear HO270
     clear HO273
     clear HO276
     clear HO279
     clear HO283
     clear BK263
     clear BK264
     clear HB
     have HO270:=n0_
     have HO273:=n1_
     have HO276:=n2_
     have HO279:=n3_
     have HO283:=n4_
     have HO287:=n5_
     have BK263:=n6_
     have BK264:=n7_
     have HB:=n8_
     clear n0_ n1_ n2_ n3_ n4_ n5_ n6_ n7_ n8_
     (try clear hb)
     (try clear hb2)
     (try clear hk)
     (try clear hi)
     (try clear ho0)
     obtain ⟨Ao45,co45,eo45⟩:=Kd.R_slice HO287.out
     (first | subst eo45 | (injection eo45 with f1_ f2_ f3_;have f4_:=f1_.symm;have f5_:=f3_.symm;clear f1_ f2_ f3_;subst f4_;subst f5_))
     refine hK.out _ _ ⟨(blk_cell BK263.out 0).trans rfl,(blk_cell BK263.out 1).trans rfl⟩ (fun hHeld => ?_)
     clear hK K
     refine norm_ (a':=?_) ?_ ?_
     rotate_left
     ·show Act.put _ (some 44) _ = _
      simp only [Act.put,List.setIfInBounds_toArray,List.set_cons_zero,List.set_cons_succ,i64_w,i32_w]
      rfl
     refine one_ (i:=4) (N:=some 46) #[true,true,true,true,true,true,true,false,false,false] rfl rfl (one_of HT_.out (by kernel_rfl)) (by decide) (fun K hK => ?_)
     refine goes_ Try.func19 (by kernel_rfl) rfl #[.slice Ao45 t285.length co45,.agg #[.int .u64 a1_0,.int .u64 a1_1]] (by rfl) rfl rfl (by (try simp only [List.map_toArray,List.map_cons,List.map_nil]);first | done | rfl | (simp only [List.length_drop,List.length_take];rfl)) ?_
     with_reducible refine (span_Cut.calls _ _ t285 a1_0 a1_1 t288 _ ?side1 ?side2 A22.out).mono ?_
     (case side1 => repeat (first | exact (Kd.R_reads' HO287.out).2.2 | (with_reducible refine Kd.C_alloc ?_ _) | (with_reducible refine Kd.C_drewN ?_ _) | (with_reducible refine Kd.C_drew ?_)))
     (case side2 => exact (Kd.R_reads' HO287.out).2.1)
     rintro e w46 ⟨v289,rfl,ho0,hb⟩
     refine ⟨_,rfl,?_⟩
     have n0_:=Aside0.mk (Kd.R_elder' (by (with_reducible repeat (first | apply Kd.R_alloc | apply Kd.R_drewN | apply Kd.R_drew));exact HO270.out) (Kd.R_base ho0) hb)
     have n1_:=Aside0.mk (Kd.R_elder' (by (with_reducible repeat (first | apply Kd.R_alloc | apply Kd.R_drewN | apply Kd.R_drew));exact HO273.out) (Kd.R_base ho0) hb)
     have n2_:=Aside0.mk (Kd.R_elder' (by (with_reducible repeat (first | apply Kd.R_alloc | apply Kd.R_drewN | apply Kd.R_drew));exact HO276.out) (Kd.R_base ho0) hb)
     have n3_:=Aside0.mk (Kd.R_elder' (by (with_reducible repeat (first | apply Kd.R_alloc | apply Kd.R_drewN | apply Kd.R_drew));exact HO279.out) (Kd.R_base ho0) hb)
     have n4_:=Aside0.mk (Kd.R_elder' (by (with_reducible repeat (first | apply Kd.R_alloc | apply Kd.R_drewN | apply Kd.R_drew));exact HO283.out) (Kd.R_base ho0) hb)
     have n5_:=Aside0.mk (Kd.R_elder' (by (with_reducible repeat (first | apply Kd.R_alloc | apply Kd.R_drewN | apply Kd.R_drew));exact HO287.out) (Kd.R_base ho0) hb)
     have n6_:=Aside0.mk (Kd.R_lower (Kd.R_newB (Kd.R_newB (Kd.R_new' (Kd.R_new' (Kd.R_new' (Kd.R_new' (Kd.R_new' (Kd.R_new' ho0 (Kd.R_lt (by (with_reducible repeat (first | apply Kd.R_alloc | apply Kd.R_drewN | apply Kd.R_drew));exact HO270.out))) (Kd.R_lt (by (with_reducible repeat (first | apply Kd.R_alloc | apply Kd.R_drewN | apply Kd.R_drew));exact HO273.out))) (Kd.R_lt (by (with_reducible repeat (first | apply Kd.R_alloc | apply Kd.R_drewN | apply Kd.R_drew));exact HO276.out))) (Kd.R_lt (by (with_reducible repeat (first | apply Kd.R_alloc | apply Kd.R_drewN | apply Kd.R_drew));exact HO279.out))) (Kd.R_lt (by (with_reducible repeat (first | apply Kd.R_alloc | apply Kd.R_drewN | apply Kd.R_drew));exact HO283.out))) (Kd.R_lt (by (with_reducible repeat (first | apply Kd.R_alloc | apply Kd.R_drewN | apply Kd.R_drew));exact HO287.out))) (g:=gb263) (o:=.cells #[.int .u64 a1_0,.int .u64 a1_1] 25 (0,0)) (by (with_reducible repeat (first | refine blk_drewN ?_ _ | refine blk_drew ?_ | refine blk_alloc ?_ _));exact BK263.out)) (g:=gb264) (o:=.cells #[.int .u64 a2_0,.int .u64 a2_1] 25 (0,0)) (by (with_reducible repeat (first | refine blk_drewN ?_ _ | refine blk_drew ?_ | refine blk_alloc ?_ _));exact BK264.out)) (below_size (by repeat (first | (with_reducible first | exact HB.out | apply below_alloc | apply pw_below_drewN | apply below_drew1 | refine below_set ?_ GE263.out | refine below_set ?_ GE264.out) | exact HB.out))))
     have n7_:=Aside0.mk (blk_below (g:=gb263) (o:=.cells #[.int .u64 a1_0,.int .u64 a1_1] 25 (0,0)) (by (with_reducible repeat (first | refine blk_drewN ?_ _ | refine blk_drew ?_ | refine blk_alloc ?_ _));exact BK263.out) hb)
     have n8_:=Aside0.mk (blk_below (g:=gb264) (o:=.cells #[.int .u64 a2_0,.int .u64 a2_1] 25 (0,0)) (by (with_reducible repeat (first | refine blk_drewN ?_ _ | refine blk_drew ?_ | refine blk_alloc ?_ _));exact BK264.out) hb)
     have n9_:=Aside0.mk (below_step (by repeat (first | (with_reducible first | exact HB.out | apply below_alloc | apply pw_below_drewN | apply below_drew1 | refine below_set ?_ GE263.out | refine below_set ?_ GE264.out) | exact HB.out)) hb)
     clear HO270
     clear HO273
     clear HO276
     clear HO279
     clear HO283
     clear HO287
     clear BK263
     clear BK264
     clear HB
     have HO270:=n0_
     have HO273:=n1_
     have HO276:=n2_
     have HO279:=n3_
     have HO283:=n4_
     have HO287:=n5_
     have HO290:=n6_
     have BK263:=n7_
     have BK264:=n8_
     have HB:=n9_
     clear n0_ n1_ n2_ n3_ n4_ n5_ n6_ n7_ n8_ n9_
     (try clear hb)
     (try clear hb2)
     (try clear hk)
     (try clear hi)
     (try clear ho0)
     refine hK.out _ _ ⟨(blk_cell BK263.out 0).trans rfl,(blk_cell BK263.out 1).trans rfl⟩ (fun hHeld => ?_)
     clear hK K
     refine norm_ (a':=?_) ?_ ?_
     rotate_left
     ·show Act.put _ (some 46) _ = _
      simp only [Act.put,List.setIfInBounds_toArray,List.set_cons_zero,List.set_cons_succ,i64_w,i32_w]
      rfl
     refine one_ (i:=7) (N:=some 49) #[true,true,true,true,true,true,true,true,false,false] rfl rfl (one_of HT_.out (by kernel_rfl)) (by decide) (fun K hK => ?_)
     refine goes_ Try.func19 (by kernel_rfl) rfl #[.slice A0 l0.length c0,.agg #[.int .u64 a1_0,.int .u64 a1_1]] (by rfl) rfl rfl (by (try simp only [List.map_toArray,List.map_cons,List.map_nil]);first | done | rfl | (simp only [List.length_drop,List.length_take];rfl)) ?_
     with_reducible refine (span_Cut.calls _ _ l0 a1_0 a1_1 t291 _ ?side1 ?side2 A23.out).mono ?_
     (case side1 => repeat (first | exact (Kd.C_below HR0.out HB.out) | (with_reducible refine Kd.C_alloc ?_ _) | (with_reducible refine Kd.C_drewN ?_ _) | (with_reducible refine Kd.C_drew ?_)))
     (case side2 => exact HC0.out)
     rintro e w47 ⟨v292,rfl,ho0,hb⟩
     refine ⟨_,rfl,?_⟩
     have n0_:=Aside0.mk (Kd.R_elder' (by (with_reducible repeat (first | apply Kd.R_alloc | apply Kd.R_drewN | apply Kd.R_drew));exact HO270.out) (Kd.R_base ho0) hb)
     have n1_:=Aside0.mk (Kd.R_elder' (by (with_reducible repeat (first | apply Kd.R_alloc | apply Kd.R_drewN | apply Kd.R_drew));exact HO273.out) (Kd.R_base ho0) hb)
     have n2_:=Aside0.mk (Kd.R_elder' (by (with_reducible repeat (first | apply Kd.R_alloc | apply Kd.R_drewN | apply Kd.R_drew));exact HO276.out) (Kd.R_base ho0) hb)
     have n3_:=Aside0.mk (Kd.R_elder' (by (with_reducible repeat (first | apply Kd.R_alloc | apply Kd.R_drewN | apply Kd.R_drew));exact HO279.out) (Kd.R_base ho0) hb)
     have n4_:=Aside0.mk (Kd.R_elder' (by (with_reducible repeat (first | apply Kd.R_alloc | apply Kd.R_drewN | apply Kd.R_drew));exact HO283.out) (Kd.R_base ho0) hb)
     have n5_:=Aside0.mk (Kd.R_elder' (by (with_reducible repeat (first | apply Kd.R_alloc | apply Kd.R_drewN | apply Kd.R_drew));exact HO287.out) (Kd.R_base ho0) hb)
     have n6_:=Aside0.mk (Kd.R_elder' (by (with_reducible repeat (first | apply Kd.R_alloc | apply Kd.R_drewN | apply Kd.R_drew));exact HO290.out) (Kd.R_base ho0) hb)
     have n7_:=Aside0.mk (Kd.R_lower (Kd.R_newB (Kd.R_newB (Kd.R_new' (Kd.R_new' (Kd.R_new' (Kd.R_new' (Kd.R_new' (Kd.R_new' (Kd.R_new' ho0 (Kd.R_lt (by (with_reducible repeat (first | apply Kd.R_alloc | apply Kd.R_drewN | apply Kd.R_drew));exact HO270.out))) (Kd.R_lt (by (with_reducible repeat (first | apply Kd.R_alloc | apply Kd.R_drewN | apply Kd.R_drew));exact HO273.out))) (Kd.R_lt (by (with_reducible repeat (first | apply Kd.R_alloc | apply Kd.R_drewN | apply Kd.R_drew));exact HO276.out))) (Kd.R_lt (by (with_reducible repeat (first | apply Kd.R_alloc | apply Kd.R_drewN | apply Kd.R_drew));exact HO279.out))) (Kd.R_lt (by (with_reducible repeat (first | apply Kd.R_alloc | apply Kd.R_drewN | apply Kd.R_drew));exact HO283.out))) (Kd.R_lt (by (with_reducible repeat (first | apply Kd.R_alloc | apply Kd.R_drewN | apply Kd.R_drew));exact HO287.out))) (Kd.R_lt (by (with_reducible repeat (first | apply Kd.R_alloc | apply Kd.R_drewN | apply Kd.R_drew));exact HO290.out))) (g:=gb263) (o:=.cells #[.int .u64 a1_0,.int .u64 a1_1] 25 (0,0)) (by (with_reducible repeat (first | refine blk_drewN ?_ _ | refine blk_drew ?_ | refine blk_alloc ?_ _));exact BK263.out)) (g:=gb264) (o:=.cells #[.int .u64 a2_0,.int .u64 a2_1] 25 (0,0)) (by (with_reducible repeat (first | refine blk_drewN ?_ _ | refine blk_drew ?_ | refine blk_alloc ?_ _));exact BK264.out)) (below_size (by repeat (first | (with_reducible first | exact HB.out | apply below_alloc | apply pw_below_drewN | apply below_drew1 | refine below_set ?_ GE263.out | refine below_set ?_ GE264.out) | exact HB.out))))
     have n8_:=Aside0.mk (blk_below (g:=gb263) (o:=.cells #[.int .u64 a1_0,.int .u64 a1_1] 25 (0,0)) (by (with_reducible repeat (first | refine blk_drewN ?_ _ | refine blk_drew ?_ | refine blk_alloc ?_ _));exact BK263.out) hb)
     have n9_:=Aside0.mk (blk_below (g:=gb264) (o:=.cells #[.int .u64 a2_0,.int .u64 a2_1] 25 (0,0)) (by (with_reducible repeat (first | refine blk_drewN ?_ _ | refine blk_drew ?_ | refine blk_alloc ?_ _));exact BK264.out) hb)
     have n10_:=Aside0.mk (below_step (by repeat (first | (with_reducible first | exact HB.out | apply below_alloc | apply pw_below_drewN | apply below_drew1 | refine below_set ?_ GE263.out | refine below_set ?_ GE264.out) | exact HB.out)) hb)
     clear HO270
     clear HO273
     clear HO276
     clear HO279
     clear HO283
     clear HO287
     clear HO290
     clear BK263
     clear BK264
     clear HB
     have HO270:=n0_
     have HO273:=n1_
     have HO276:=n2_
     have HO279:=n3_
     have HO283:=n4_
     have HO287:=n5_
     have HO290:=n6_
     have HO293:=n7_
     have BK263:=n8_
     have BK264:=n9_
     have HB:=n10_
     clear n0_ n1_ n2_ n3_ n4_ n5_ n6_ n7_ n8_ n9_ n10_
     (try clear hb)
     (try clear hb2)
     (try clear hk)
     (try clear hi)
     (try clear ho0)
     obtain ⟨Ao48,co48,eo48⟩:=Kd.R_slice HO290.out
     (first | subst eo48 | (injection eo48 with f1_ f2_ f3_;have f4_:=f1_.symm;have f5_:=f3_.symm;clear f1_ f2_ f3_;subst f4_;subst f5_))
     obtain ⟨Ao49,co49,eo49⟩:=Kd.R_slice HO293.out
     (first | subst eo49 | (injection eo49 with f1_ f2_ f3_;have f4_:=f1_.symm;have f5_:=f3_.symm;clear f1_ f2_ f3_;subst f4_;subst f5_))
     refine hK.out _ _ ⟨(blk_cell BK263.out 0).trans rfl,(blk_cell BK263.out 1).trans rfl⟩ (fun hHeld => ?_)
     clear hK K
     refine norm_ (a':=?_) ?_ ?_
     rotate_left
     ·show Act.put _ (some 49) _ = _
      simp only [Act.put,List.setIfInBounds_toArray,List.set_cons_zero,List.set_cons_succ,i64_w,i32_w]
      rfl
     refine one_ (i:=8) (N:=some 50) #[true,true,true,true,true,true,true,true,true,false] rfl rfl (one_of HT_.out (by kernel_rfl)) (by decide) (fun K hK => ?_)
     refine goes_ Try.func16 (by kernel_rfl) rfl #[.slice Ao48 t288.length co48,.slice Ao49 t291.length co49] (by rfl) rfl rfl (by (try simp only [List.map_toArray,List.map_cons,List.map_nil]);first | done | rfl | (simp only [List.length_drop,List.length_take];rfl)) ?_
     with_reducible refine (wigwagref07_Same.calls kj4 _ _ t288 _ _ t291 t294 _ ?side1 ?side2 ?side3 ?side4 A24.out).mono ?_
     (case side1 => repeat (first | exact (Kd.R_reads' HO290.out).2.2 | (with_reducible refine Kd.C_alloc ?_ _) | (with_reducible refine Kd.C_drewN ?_ _) | (with_reducible refine Kd.C_drew ?_)))
     (case side2 => exact (Kd.R_reads' HO290.out).2.1)
     (case side3 => repeat (first | exact (Kd.R_reads' HO293.out).2.2 | (with_reducible refine Kd.C_alloc ?_ _) | (with_reducible refine Kd.C_drewN ?_ _) | (with_reducible refine Kd.C_drew ?_)))
     (case side4 => exact (Kd.R_reads' HO293.out).2.1)
     rintro e w' ⟨rfl,⟨nd,rfl⟩⟩
     refine ⟨_,rfl,?_⟩
     refine hK.out _ _ ⟨(blk_cell BK263.out 0).trans rfl,(blk_cell BK263.out 1).trans rfl⟩ (fun hHeld => ?_)
     clear hK K
     refine norm_ (a':=?_) ?_ ?_
     rotate_left
     ·show Act.put _ (some 50) _ = _
      simp only [Act.put,List.setIfInBounds_toArray,List.set_cons_zero,List.set_cons_succ,i64_w,i32_w]
      rfl
     refine pure_ (i:=9) (N:=some 12) (v:=?_) (a':=?_) #[true,true,true,true,true,true,true,true,true,true] rfl rfl (any_of HT_.out (by kernel_rfl)) (fun _ _ _ h => h) (Or.inl ⟨by rfl,?_⟩) ?_ ?_
     rotate_left
     ·intro w'
      go_simp
      with_reducible rfl
     rotate_left
     ·simp only [Act.put,List.setIfInBounds_toArray,List.set_cons_zero,List.set_cons_succ,i64_w,i32_w]
      rfl
     refine done_ (done_of HT_.out (by kernel_rfl)) ?_
     go_upto_region 10 with (first | ((with_reducible refine gate_callee (f:=21) rfl ?_);refine goesL_ (some 53) rfl rfl Try.func21 (by kernel_rfl) rfl #[.slice A0 l0.length c0,.slice A0 l0.length c0] rfl (by (try simp only [List.map_toArray,List.map_cons,List.map_nil]);first | done | rfl | (simp only [List.length_drop,List.length_take];rfl)) ?_;(with_reducible refine (span_Both.calls kj4 (fun k_ => k_ < w.heap.size) _ _ l0 (fun k_ => k_ < w.heap.size) _ _ l0 t295 _ ?side1 ?side2 A25.out).mono ?_);(case side1 => exact Kd.V_mk HC0.out (Kd.F_below (Kd.C_F k25_heap HR0.out) (by repeat (first | (with_reducible first | exact HB.out | apply below_alloc | apply pw_below_drewN | apply below_drew1 | refine below_set ?_ GE263.out | refine below_set ?_ GE264.out) | exact HB.out))));(case side2 => exact Kd.V_mk HC0.out (Kd.F_below (Kd.C_F k25_heap HR0.out) (by repeat (first | (with_reducible first | exact HB.out | apply below_alloc | apply pw_below_drewN | apply below_drew1 | refine below_set ?_ GE263.out | refine below_set ?_ GE264.out) | exact HB.out))));rintro e w50 ⟨v296,rfl,ho0,hb⟩;refine ⟨_,rfl,?_⟩;have n0_:=Aside0.mk (Kd.R_elder' (by (with_reducible repeat (first | apply Kd.R_alloc | apply Kd.R_drewN | apply Kd.R_drew));exact HO270.out) (Kd.R_base ho0) hb);have n1_:=Aside0.mk (Kd.R_elder' (by (with_reducible repeat (first | apply Kd.R_alloc | apply Kd.R_drewN | apply Kd.R_drew));exact HO273.out) (Kd.R_base ho0) hb);have n2_:=Aside0.mk (Kd.R_elder' (by (with_reducible repeat (first | apply Kd.R_alloc | apply Kd.R_drewN | apply Kd.R_drew));exact HO276.out) (Kd.R_base ho0) hb);have n3_:=Aside0.mk (Kd.R_elder' (by (with_reducible repeat (first | apply Kd.R_alloc | apply Kd.R_drewN | apply Kd.R_drew));exact HO279.out) (Kd.R_base ho0) hb);have n4_:=Aside0.mk (Kd.R_elder' (by (with_reducible repeat (first | apply Kd.R_alloc | apply Kd.R_drewN | apply Kd.R_drew));exact HO283.out) (Kd.R_base ho0) hb);have n5_:=Aside0.mk (Kd.R_elder' (by (with_reducible repeat (first | apply Kd.R_alloc | apply Kd.R_drewN | apply Kd.R_drew));exact HO287.out) (Kd.R_base ho0) hb);have n6_:=Aside0.mk (Kd.R_elder' (by (with_reducible repeat (first | apply Kd.R_alloc | apply Kd.R_drewN | apply Kd.R_drew));exact HO290.out) (Kd.R_base ho0) hb);have n7_:=Aside0.mk (Kd.R_elder' (by (with_reducible repeat (first | apply Kd.R_alloc | apply Kd.R_drewN | apply Kd.R_drew));exact HO293.out) (Kd.R_base ho0) hb);have n8_:=Aside0.mk (Kd.R_lower (Kd.R_newB (Kd.R_newB (Kd.R_new' (Kd.R_new' (Kd.R_new' (Kd.R_new' (Kd.R_new' (Kd.R_new' (Kd.R_new' (Kd.R_new' (Kd.R_mono (ok':=fun k_ => True) ho0 (fun _ hk_ => trivial)) (Kd.R_lt (by (with_reducible repeat (first | apply Kd.R_alloc | apply Kd.R_drewN | apply Kd.R_drew));exact HO270.out))) (Kd.R_lt (by (with_reducible repeat (first | apply Kd.R_alloc | apply Kd.R_drewN | apply Kd.R_drew));exact HO273.out))) (Kd.R_lt (by (with_reducible repeat (first | apply Kd.R_alloc | apply Kd.R_drewN | apply Kd.R_drew));exact HO276.out))) (Kd.R_lt (by (with_reducible repeat (first | apply Kd.R_alloc | apply Kd.R_drewN | apply Kd.R_drew));exact HO279.out))) (Kd.R_lt (by (with_reducible repeat (first | apply Kd.R_alloc | apply Kd.R_drewN | apply Kd.R_drew));exact HO283.out))) (Kd.R_lt (by (with_reducible repeat (first | apply Kd.R_alloc | apply Kd.R_drewN | apply Kd.R_drew));exact HO287.out))) (Kd.R_lt (by (with_reducible repeat (first | apply Kd.R_alloc | apply Kd.R_drewN | apply Kd.R_drew));exact HO290.out))) (Kd.R_lt (by (with_reducible repeat (first | apply Kd.R_alloc | apply Kd.R_drewN | apply Kd.R_drew));exact HO293.out))) (g:=gb263) (o:=.cells #[.int .u64 a1_0,.int .u64 a1_1] 25 (0,0)) (by (with_reducible repeat (first | refine blk_drewN ?_ _ | refine blk_drew ?_ | refine blk_alloc ?_ _));exact BK263.out)) (g:=gb264) (o:=.cells #[.int .u64 a2_0,.int .u64 a2_1] 25 (0,0)) (by (with_reducible repeat (first | refine blk_drewN ?_ _ | refine blk_drew ?_ | refine blk_alloc ?_ _));exact BK264.out)) (below_size (by repeat (first | (with_reducible first | exact HB.out | apply below_alloc | apply pw_below_drewN | apply below_drew1 | refine below_set ?_ GE263.out | refine below_set ?_ GE264.out) | exact HB.out))));have n9_:=Aside0.mk (blk_below (g:=gb263) (o:=.cells #[.int .u64 a1_0,.int .u64 a1_1] 25 (0,0)) (by (with_reducible repeat (first | refine blk_drewN ?_ _ | refine blk_drew ?_ | refine blk_alloc ?_ _));exact BK263.out) hb);have n10_:=Aside0.mk (blk_below (g:=gb264) (o:=.cells #[.int .u64 a2_0,.int .u64 a2_1] 25 (0,0)) (by (with_reducible repeat (first | refine blk_drewN ?_ _ | refine blk_drew ?_ | refine blk_alloc ?_ _));exact BK264.out) hb);have n11_:=Aside0.mk (below_step (by repeat (first | (with_reducible first | exact HB.out | apply below_alloc | apply pw_below_drewN | apply below_drew1 | refine below_set ?_ GE263.out | refine below_set ?_ GE264.out) | exact HB.out)) hb);clear HO270;clear HO273;clear HO276;clear HO279;clear HO283;clear HO287;clear HO290;clear HO293;clear BK263;clear BK264;clear HB;have HO270:=n0_;have HO273:=n1_;have HO276:=n2_;have HO279:=n3_;have HO283:=n4_;have HO287:=n5_;have HO290:=n6_;have HO293:=n7_;have HO297:=n8_;have BK263:=n9_;have BK264:=n10_;have HB:=n11_;clear n0_ n1_ n2_ n3_ n4_ n5_ n6_ n7_ n8_ n9_ n10_ n11_;(try clear hb);(try clear hb2);(try clear hk);(try clear hi);(try clear ho0)) | ((with_reducible refine gate_dst (N:=54) rfl ?_);refine Kd.R_lit k25 _ 25 ?hg (N:=54) ?hd (xs:=([] : List (S25))) (inner:=[]) (ok:=fun _ => True) (okp:=fun _ => True) ?hr ?hp (fun _ hk => hk) trivial (Below.refl _ _) (Nat.le_refl _) (by simp) ?_;(case hd => rfl);(case hg => rfl);(case hr => first | (go_simp;done) | (go_simp;rfl));(case hp => exact (Reps.none _ _));intro v299 w51 ho52 hb hg_ hnew_;clear hg_ hnew_;(first | rw [← Ny298.out] at ho52 | (simp only [Int.reduceToNat] at ho52;rw [← Ny298.out] at ho52));have n0_:=Aside0.mk (Kd.R_elder' (by (with_reducible repeat (first | apply Kd.R_alloc | apply Kd.R_drewN | apply Kd.R_drew));exact HO270.out) (Kd.R_base ho52) hb);have n1_:=Aside0.mk (Kd.R_elder' (by (with_reducible repeat (first | apply Kd.R_alloc | apply Kd.R_drewN | apply Kd.R_drew));exact HO273.out) (Kd.R_base ho52) hb);have n2_:=Aside0.mk (Kd.R_elder' (by (with_reducible repeat (first | apply Kd.R_alloc | apply Kd.R_drewN | apply Kd.R_drew));exact HO276.out) (Kd.R_base ho52) hb);have n3_:=Aside0.mk (Kd.R_elder' (by (with_reducible repeat (first | apply Kd.R_alloc | apply Kd.R_drewN | apply Kd.R_drew));exact HO279.out) (Kd.R_base ho52) hb);have n4_:=Aside0.mk (Kd.R_elder' (by (with_reducible repeat (first | apply Kd.R_alloc | apply Kd.R_drewN | apply Kd.R_drew));exact HO283.out) (Kd.R_base ho52) hb);have n5_:=Aside0.mk (Kd.R_elder' (by (with_reducible repeat (first | apply Kd.R_alloc | apply Kd.R_drewN | apply Kd.R_drew));exact HO287.out) (Kd.R_base ho52) hb);have n6_:=Aside0.mk (Kd.R_elder' (by (with_reducible repeat (first | apply Kd.R_alloc | apply Kd.R_drewN | apply Kd.R_drew));exact HO290.out) (Kd.R_base ho52) hb);have n7_:=Aside0.mk (Kd.R_elder' (by (with_reducible repeat (first | apply Kd.R_alloc | apply Kd.R_drewN | apply Kd.R_drew));exact HO293.out) (Kd.R_base ho52) hb);have n8_:=Aside0.mk (Kd.R_elder' (by (with_reducible repeat (first | apply Kd.R_alloc | apply Kd.R_drewN | apply Kd.R_drew));exact HO297.out) (Kd.R_base ho52) hb);have n9_:=Aside0.mk (Kd.R_lower (Kd.R_newB (Kd.R_newB (Kd.R_new' (Kd.R_new' (Kd.R_new' (Kd.R_new' (Kd.R_new' (Kd.R_new' (Kd.R_new' (Kd.R_new' (Kd.R_new' ho52 (Kd.R_lt (by (with_reducible repeat (first | apply Kd.R_alloc | apply Kd.R_drewN | apply Kd.R_drew));exact HO270.out))) (Kd.R_lt (by (with_reducible repeat (first | apply Kd.R_alloc | apply Kd.R_drewN | apply Kd.R_drew));exact HO273.out))) (Kd.R_lt (by (with_reducible repeat (first | apply Kd.R_alloc | apply Kd.R_drewN | apply Kd.R_drew));exact HO276.out))) (Kd.R_lt (by (with_reducible repeat (first | apply Kd.R_alloc | apply Kd.R_drewN | apply Kd.R_drew));exact HO279.out))) (Kd.R_lt (by (with_reducible repeat (first | apply Kd.R_alloc | apply Kd.R_drewN | apply Kd.R_drew));exact HO283.out))) (Kd.R_lt (by (with_reducible repeat (first | apply Kd.R_alloc | apply Kd.R_drewN | apply Kd.R_drew));exact HO287.out))) (Kd.R_lt (by (with_reducible repeat (first | apply Kd.R_alloc | apply Kd.R_drewN | apply Kd.R_drew));exact HO290.out))) (Kd.R_lt (by (with_reducible repeat (first | apply Kd.R_alloc | apply Kd.R_drewN | apply Kd.R_drew));exact HO293.out))) (Kd.R_lt (by (with_reducible repeat (first | apply Kd.R_alloc | apply Kd.R_drewN | apply Kd.R_drew));exact HO297.out))) (g:=gb263) (o:=.cells #[.int .u64 a1_0,.int .u64 a1_1] 25 (0,0)) (by (with_reducible repeat (first | refine blk_drewN ?_ _ | refine blk_drew ?_ | refine blk_alloc ?_ _));exact BK263.out)) (g:=gb264) (o:=.cells #[.int .u64 a2_0,.int .u64 a2_1] 25 (0,0)) (by (with_reducible repeat (first | refine blk_drewN ?_ _ | refine blk_drew ?_ | refine blk_alloc ?_ _));exact BK264.out)) (below_size (by repeat (first | (with_reducible first | exact HB.out | apply below_alloc | apply pw_below_drewN | apply below_drew1 | refine below_set ?_ GE263.out | refine below_set ?_ GE264.out) | exact HB.out))));have n10_:=Aside0.mk (blk_below (g:=gb263) (o:=.cells #[.int .u64 a1_0,.int .u64 a1_1] 25 (0,0)) (by (with_reducible repeat (first | refine blk_drewN ?_ _ | refine blk_drew ?_ | refine blk_alloc ?_ _));exact BK263.out) hb);have n11_:=Aside0.mk (blk_below (g:=gb264) (o:=.cells #[.int .u64 a2_0,.int .u64 a2_1] 25 (0,0)) (by (with_reducible repeat (first | refine blk_drewN ?_ _ | refine blk_drew ?_ | refine blk_alloc ?_ _));exact BK264.out) hb);have n12_:=Aside0.mk (below_step (by repeat (first | (with_reducible first | exact HB.out | apply below_alloc | apply pw_below_drewN | apply below_drew1 | refine below_set ?_ GE263.out | refine below_set ?_ GE264.out) | exact HB.out)) hb);clear HO270;clear HO273;clear HO276;clear HO279;clear HO283;clear HO287;clear HO290;clear HO293;clear HO297;clear BK263;clear BK264;clear HB;have HO270:=n0_;have HO273:=n1_;have HO276:=n2_;have HO279:=n3_;have HO283:=n4_;have HO287:=n5_;have HO290:=n6_;have HO293:=n7_;have HO297:=n8_;have HO300:=n9_;have BK263:=n10_;have BK264:=n11_;have HB:=n12_;clear n0_ n1_ n2_ n3_ n4_ n5_ n6_ n7_ n8_ n9_ n10_ n11_ n12_;clear hb ho52) | ((with_reducible refine gate_builtin (b:=.append) (xs:=#[.tmp 54,.tmp 55]) rfl ?_);at_builtin;refine Kd.R_append_rows k25 (w0:=w) w.heap.size rfl (.tmp 54) (.tmp 55) 22 25 (.agg #[(.int .u64 0),(.int .u64 0)]) 16 rfl Try.underlying22 info25 rfl (by decide) (by omega) v299 y298 l0 _ _ _ (fun k_ => some k_ ≠ (.slice Ao31 t268.length co31 : Value).ownBlock ∧ some k_ ≠ (.slice Ao37 t271.length co37 : Value).ownBlock ∧ some k_ ≠ (.slice Ao35 t274.length co35 : Value).ownBlock ∧ some k_ ≠ (.slice Ao38 t277.length co38 : Value).ownBlock ∧ some k_ ≠ (.slice Ao42 t281.length co42 : Value).ownBlock ∧ some k_ ≠ (.slice Ao45 t285.length co45 : Value).ownBlock ∧ some k_ ≠ (.slice Ao48 t288.length co48 : Value).ownBlock ∧ some k_ ≠ (.slice Ao49 t291.length co49 : Value).ownBlock ∧ some k_ ≠ (v296 : Value).ownBlock ∧ k_ ≠ gb263 ∧ k_ ≠ gb264) (fun _ => False) rfl rfl ?aO ?aR (fun _ _ h => h) (fun _ h => h.elim) ?aF ?aB ?aS ?aL ?_;(case aR => repeat (first | exact (Kd.C_below HR0.out HB.out) | (with_reducible refine Kd.C_alloc ?_ _) | (with_reducible refine Kd.C_drewN ?_ _) | (with_reducible refine Kd.C_drew ?_)));(case aB => exact (by repeat (first | (with_reducible first | exact HB.out | apply below_alloc | apply pw_below_drewN | apply below_drew1 | refine below_set ?_ GE263.out | refine below_set ?_ GE264.out) | exact HB.out)));(case aF => exact (fun k_ hk => ⟨Kd.fresh' (Kd.R_lt (by (with_reducible repeat (first | apply Kd.R_alloc | apply Kd.R_drewN | apply Kd.R_drew));exact HO270.out)) k_ hk,Kd.fresh' (Kd.R_lt (by (with_reducible repeat (first | apply Kd.R_alloc | apply Kd.R_drewN | apply Kd.R_drew));exact HO273.out)) k_ hk,Kd.fresh' (Kd.R_lt (by (with_reducible repeat (first | apply Kd.R_alloc | apply Kd.R_drewN | apply Kd.R_drew));exact HO276.out)) k_ hk,Kd.fresh' (Kd.R_lt (by (with_reducible repeat (first | apply Kd.R_alloc | apply Kd.R_drewN | apply Kd.R_drew));exact HO279.out)) k_ hk,Kd.fresh' (Kd.R_lt (by (with_reducible repeat (first | apply Kd.R_alloc | apply Kd.R_drewN | apply Kd.R_drew));exact HO283.out)) k_ hk,Kd.fresh' (Kd.R_lt (by (with_reducible repeat (first | apply Kd.R_alloc | apply Kd.R_drewN | apply Kd.R_drew));exact HO287.out)) k_ hk,Kd.fresh' (Kd.R_lt (by (with_reducible repeat (first | apply Kd.R_alloc | apply Kd.R_drewN | apply Kd.R_drew));exact HO290.out)) k_ hk,Kd.fresh' (Kd.R_lt (by (with_reducible repeat (first | apply Kd.R_alloc | apply Kd.R_drewN | apply Kd.R_drew));exact HO293.out)) k_ hk,Kd.fresh' (Kd.R_lt (by (with_reducible repeat (first | apply Kd.R_alloc | apply Kd.R_drewN | apply Kd.R_drew));exact HO297.out)) k_ hk,Kd.freshB (g:=gb263) (o:=.cells #[.int .u64 a1_0,.int .u64 a1_1] 25 (0,0)) (by (with_reducible repeat (first | refine blk_drewN ?_ _ | refine blk_drew ?_ | refine blk_alloc ?_ _));exact BK263.out) k_ hk,Kd.freshB (g:=gb264) (o:=.cells #[.int .u64 a2_0,.int .u64 a2_1] 25 (0,0)) (by (with_reducible repeat (first | refine blk_drewN ?_ _ | refine blk_drew ?_ | refine blk_alloc ?_ _));exact BK264.out) k_ hk⟩));(case aO => exact (by (with_reducible repeat (first | apply Kd.R_alloc | apply Kd.R_drewN | apply Kd.R_drew));exact Kd.R_mono HO300.out (fun _ hk => (by first | exact ⟨hk.1.1.1.1.1.1.1.1.1.1.2,⟨hk.1.1.1.1.1.1.1.1.1.2,⟨hk.1.1.1.1.1.1.1.1.2,⟨hk.1.1.1.1.1.1.1.2,⟨hk.1.1.1.1.1.1.2,⟨hk.1.1.1.1.1.2,⟨hk.1.1.1.1.2,⟨hk.1.1.1.2,⟨hk.1.1.2,⟨hk.1.2,hk.2⟩⟩⟩⟩⟩⟩⟩⟩⟩⟩ | simp_all))));(case aS => exact (below_size (by repeat (first | (with_reducible first | exact HB.out | apply below_alloc | apply pw_below_drewN | apply below_drew1 | refine below_set ?_ GE263.out | refine below_set ?_ GE264.out) | exact HB.out))));(case aL => have:=LMc26.out;omega);intro v302 w53 ho hb hg hat;rw [← Ny301.out] at ho;have n0_:=Aside0.mk (blk_grown (g:=gb263) (o:=.cells #[.int .u64 a1_0,.int .u64 a1_1] 25 (0,0)) (by (with_reducible repeat (first | refine blk_drewN ?_ _ | refine blk_drew ?_ | refine blk_alloc ?_ _));exact BK263.out) hg (Kd.R_away HO300.out (fun _ hk => hk.1.2)));have n1_:=Aside0.mk (blk_grown (g:=gb264) (o:=.cells #[.int .u64 a2_0,.int .u64 a2_1] 25 (0,0)) (by (with_reducible repeat (first | refine blk_drewN ?_ _ | refine blk_drew ?_ | refine blk_alloc ?_ _));exact BK264.out) hg (Kd.R_away HO300.out (fun _ hk => hk.2)));have n2_:=Aside0.mk (Kd.R_after (ok:=(fun k_ => some k_ ≠ (.slice Ao37 t271.length co37 : Value).ownBlock ∧ some k_ ≠ (.slice Ao35 t274.length co35 : Value).ownBlock ∧ some k_ ≠ (.slice Ao38 t277.length co38 : Value).ownBlock ∧ some k_ ≠ (.slice Ao42 t281.length co42 : Value).ownBlock ∧ some k_ ≠ (.slice Ao45 t285.length co45 : Value).ownBlock ∧ some k_ ≠ (.slice Ao48 t288.length co48 : Value).ownBlock ∧ some k_ ≠ (.slice Ao49 t291.length co49 : Value).ownBlock ∧ some k_ ≠ (v296 : Value).ownBlock ∧ k_ ≠ gb263 ∧ k_ ≠ gb264)) (by (with_reducible repeat (first | apply Kd.R_alloc | apply Kd.R_drewN | apply Kd.R_drew));exact Kd.R_mono HO270.out (fun _ hk => (by first | exact ⟨⟨hk.1.1.1.1.1.1.1.1.2,⟨hk.1.1.1.1.1.1.1.2,⟨hk.1.1.1.1.1.1.2,⟨hk.1.1.1.1.1.2,⟨hk.1.1.1.1.2,⟨hk.1.1.1.2,⟨hk.1.1.2,⟨hk.1.2,⟨hk.1.1.1.1.1.1.1.1.1.1.2,hk.1.1.1.1.1.1.1.1.1.2⟩⟩⟩⟩⟩⟩⟩⟩⟩,hk.2⟩ | simp_all))) hg hat);have n3_:=Aside0.mk (Kd.R_after (ok:=(fun k_ => some k_ ≠ (.slice Ao31 t268.length co31 : Value).ownBlock ∧ some k_ ≠ (.slice Ao35 t274.length co35 : Value).ownBlock ∧ some k_ ≠ (.slice Ao38 t277.length co38 : Value).ownBlock ∧ some k_ ≠ (.slice Ao42 t281.length co42 : Value).ownBlock ∧ some k_ ≠ (.slice Ao45 t285.length co45 : Value).ownBlock ∧ some k_ ≠ (.slice Ao48 t288.length co48 : Value).ownBlock ∧ some k_ ≠ (.slice Ao49 t291.length co49 : Value).ownBlock ∧ some k_ ≠ (v296 : Value).ownBlock ∧ k_ ≠ gb263 ∧ k_ ≠ gb264)) (by (with_reducible repeat (first | apply Kd.R_alloc | apply Kd.R_drewN | apply Kd.R_drew));exact Kd.R_mono HO273.out (fun _ hk => (by first | exact ⟨⟨hk.1.1.1.1.1.1.1.1.1.1.2,⟨hk.1.1.1.1.1.1.1.2,⟨hk.1.1.1.1.1.1.2,⟨hk.1.1.1.1.1.2,⟨hk.1.1.1.1.2,⟨hk.1.1.1.2,⟨hk.1.1.2,⟨hk.1.2,⟨hk.1.1.1.1.1.1.1.1.1.2,hk.1.1.1.1.1.1.1.1.2⟩⟩⟩⟩⟩⟩⟩⟩⟩,hk.2⟩ | simp_all))) hg hat);have n4_:=Aside0.mk (Kd.R_after (ok:=(fun k_ => some k_ ≠ (.slice Ao31 t268.length co31 : Value).ownBlock ∧ some k_ ≠ (.slice Ao37 t271.length co37 : Value).ownBlock ∧ some k_ ≠ (.slice Ao38 t277.length co38 : Value).ownBlock ∧ some k_ ≠ (.slice Ao42 t281.length co42 : Value).ownBlock ∧ some k_ ≠ (.slice Ao45 t285.length co45 : Value).ownBlock ∧ some k_ ≠ (.slice Ao48 t288.length co48 : Value).ownBlock ∧ some k_ ≠ (.slice Ao49 t291.length co49 : Value).ownBlock ∧ some k_ ≠ (v296 : Value).ownBlock ∧ k_ ≠ gb263 ∧ k_ ≠ gb264)) (by (with_reducible repeat (first | apply Kd.R_alloc | apply Kd.R_drewN | apply Kd.R_drew));exact Kd.R_mono HO276.out (fun _ hk => (by first | exact ⟨⟨hk.1.1.1.1.1.1.1.1.1.1.2,⟨hk.1.1.1.1.1.1.1.1.1.2,⟨hk.1.1.1.1.1.1.2,⟨hk.1.1.1.1.1.2,⟨hk.1.1.1.1.2,⟨hk.1.1.1.2,⟨hk.1.1.2,⟨hk.1.2,⟨hk.1.1.1.1.1.1.1.1.2,hk.1.1.1.1.1.1.1.2⟩⟩⟩⟩⟩⟩⟩⟩⟩,hk.2⟩ | simp_all))) hg hat);have n5_:=Aside0.mk (Kd.R_after (ok:=(fun k_ => some k_ ≠ (.slice Ao31 t268.length co31 : Value).ownBlock ∧ some k_ ≠ (.slice Ao37 t271.length co37 : Value).ownBlock ∧ some k_ ≠ (.slice Ao35 t274.length co35 : Value).ownBlock ∧ some k_ ≠ (.slice Ao42 t281.length co42 : Value).ownBlock ∧ some k_ ≠ (.slice Ao45 t285.length co45 : Value).ownBlock ∧ some k_ ≠ (.slice Ao48 t288.length co48 : Value).ownBlock ∧ some k_ ≠ (.slice Ao49 t291.length co49 : Value).ownBlock ∧ some k_ ≠ (v296 : Value).ownBlock ∧ k_ ≠ gb263 ∧ k_ ≠ gb264)) (by (with_reducible repeat (first | apply Kd.R_alloc | apply Kd.R_drewN | apply Kd.R_drew));exact Kd.R_mono HO279.out (fun _ hk => (by first | exact ⟨⟨hk.1.1.1.1.1.1.1.1.1.1.2,⟨hk.1.1.1.1.1.1.1.1.1.2,⟨hk.1.1.1.1.1.1.1.1.2,⟨hk.1.1.1.1.1.2,⟨hk.1.1.1.1.2,⟨hk.1.1.1.2,⟨hk.1.1.2,⟨hk.1.2,⟨hk.1.1.1.1.1.1.1.2,hk.1.1.1.1.1.1.2⟩⟩⟩⟩⟩⟩⟩⟩⟩,hk.2⟩ | simp_all))) hg hat);have n6_:=Aside0.mk (Kd.R_after (ok:=(fun k_ => some k_ ≠ (.slice Ao31 t268.length co31 : Value).ownBlock ∧ some k_ ≠ (.slice Ao37 t271.length co37 : Value).ownBlock ∧ some k_ ≠ (.slice Ao35 t274.length co35 : Value).ownBlock ∧ some k_ ≠ (.slice Ao38 t277.length co38 : Value).ownBlock ∧ some k_ ≠ (.slice Ao45 t285.length co45 : Value).ownBlock ∧ some k_ ≠ (.slice Ao48 t288.length co48 : Value).ownBlock ∧ some k_ ≠ (.slice Ao49 t291.length co49 : Value).ownBlock ∧ some k_ ≠ (v296 : Value).ownBlock ∧ k_ ≠ gb263 ∧ k_ ≠ gb264)) (by (with_reducible repeat (first | apply Kd.R_alloc | apply Kd.R_drewN | apply Kd.R_drew));exact Kd.R_mono HO283.out (fun _ hk => (by first | exact ⟨⟨hk.1.1.1.1.1.1.1.1.1.1.2,⟨hk.1.1.1.1.1.1.1.1.1.2,⟨hk.1.1.1.1.1.1.1.1.2,⟨hk.1.1.1.1.1.1.1.2,⟨hk.1.1.1.1.2,⟨hk.1.1.1.2,⟨hk.1.1.2,⟨hk.1.2,⟨hk.1.1.1.1.1.1.2,hk.1.1.1.1.1.2⟩⟩⟩⟩⟩⟩⟩⟩⟩,hk.2⟩ | simp_all))) hg hat);have n7_:=Aside0.mk (Kd.R_after (ok:=(fun k_ => some k_ ≠ (.slice Ao31 t268.length co31 : Value).ownBlock ∧ some k_ ≠ (.slice Ao37 t271.length co37 : Value).ownBlock ∧ some k_ ≠ (.slice Ao35 t274.length co35 : Value).ownBlock ∧ some k_ ≠ (.slice Ao38 t277.length co38 : Value).ownBlock ∧ some k_ ≠ (.slice Ao42 t281.length co42 : Value).ownBlock ∧ some k_ ≠ (.slice Ao48 t288.length co48 : Value).ownBlock ∧ some k_ ≠ (.slice Ao49 t291.length co49 : Value).ownBlock ∧ some k_ ≠ (v296 : Value).ownBlock ∧ k_ ≠ gb263 ∧ k_ ≠ gb264)) (by (with_reducible repeat (first | apply Kd.R_alloc | apply Kd.R_drewN | apply Kd.R_drew));exact Kd.R_mono HO287.out (fun _ hk => (by first | exact ⟨⟨hk.1.1.1.1.1.1.1.1.1.1.2,⟨hk.1.1.1.1.1.1.1.1.1.2,⟨hk.1.1.1.1.1.1.1.1.2,⟨hk.1.1.1.1.1.1.1.2,⟨hk.1.1.1.1.1.1.2,⟨hk.1.1.1.2,⟨hk.1.1.2,⟨hk.1.2,⟨hk.1.1.1.1.1.2,hk.1.1.1.1.2⟩⟩⟩⟩⟩⟩⟩⟩⟩,hk.2⟩ | simp_all))) hg hat);have n8_:=Aside0.mk (Kd.R_after (ok:=(fun k_ => some k_ ≠ (.slice Ao31 t268.length co31 : Value).ownBlock ∧ some k_ ≠ (.slice Ao37 t271.length co37 : Value).ownBlock ∧ some k_ ≠ (.slice Ao35 t274.length co35 : Value).ownBlock ∧ some k_ ≠ (.slice Ao38 t277.length co38 : Value).ownBlock ∧ some k_ ≠ (.slice Ao42 t281.length co42 : Value).ownBlock ∧ some k_ ≠ (.slice Ao45 t285.length co45 : Value).ownBlock ∧ some k_ ≠ (.slice Ao49 t291.length co49 : Value).ownBlock ∧ some k_ ≠ (v296 : Value).ownBlock ∧ k_ ≠ gb263 ∧ k_ ≠ gb264)) (by (with_reducible repeat (first | apply Kd.R_alloc | apply Kd.R_drewN | apply Kd.R_drew));exact Kd.R_mono HO290.out (fun _ hk => (by first | exact ⟨⟨hk.1.1.1.1.1.1.1.1.1.1.2,⟨hk.1.1.1.1.1.1.1.1.1.2,⟨hk.1.1.1.1.1.1.1.1.2,⟨hk.1.1.1.1.1.1.1.2,⟨hk.1.1.1.1.1.1.2,⟨hk.1.1.1.1.1.2,⟨hk.1.1.2,⟨hk.1.2,⟨hk.1.1.1.1.2,hk.1.1.1.2⟩⟩⟩⟩⟩⟩⟩⟩⟩,hk.2⟩ | simp_all))) hg hat);have n9_:=Aside0.mk (Kd.R_after (ok:=(fun k_ => some k_ ≠ (.slice Ao31 t268.length co31 : Value).ownBlock ∧ some k_ ≠ (.slice Ao37 t271.length co37 : Value).ownBlock ∧ some k_ ≠ (.slice Ao35 t274.length co35 : Value).ownBlock ∧ some k_ ≠ (.slice Ao38 t277.length co38 : Value).ownBlock ∧ some k_ ≠ (.slice Ao42 t281.length co42 : Value).ownBlock ∧ some k_ ≠ (.slice Ao45 t285.length co45 : Value).ownBlock ∧ some k_ ≠ (.slice Ao48 t288.length co48 : Value).ownBlock ∧ some k_ ≠ (v296 : Value).ownBlock ∧ k_ ≠ gb263 ∧ k_ ≠ gb264)) (by (with_reducible repeat (first | apply Kd.R_alloc | apply Kd.R_drewN | apply Kd.R_drew));exact Kd.R_mono HO293.out (fun _ hk => (by first | exact ⟨⟨hk.1.1.1.1.1.1.1.1.1.1.2,⟨hk.1.1.1.1.1.1.1.1.1.2,⟨hk.1.1.1.1.1.1.1.1.2,⟨hk.1.1.1.1.1.1.1.2,⟨hk.1.1.1.1.1.1.2,⟨hk.1.1.1.1.1.2,⟨hk.1.1.1.1.2,⟨hk.1.2,⟨hk.1.1.1.2,hk.1.1.2⟩⟩⟩⟩⟩⟩⟩⟩⟩,hk.2⟩ | simp_all))) hg hat);have n10_:=Aside0.mk (Kd.R_after (ok:=(fun k_ => some k_ ≠ (.slice Ao31 t268.length co31 : Value).ownBlock ∧ some k_ ≠ (.slice Ao37 t271.length co37 : Value).ownBlock ∧ some k_ ≠ (.slice Ao35 t274.length co35 : Value).ownBlock ∧ some k_ ≠ (.slice Ao38 t277.length co38 : Value).ownBlock ∧ some k_ ≠ (.slice Ao42 t281.length co42 : Value).ownBlock ∧ some k_ ≠ (.slice Ao45 t285.length co45 : Value).ownBlock ∧ some k_ ≠ (.slice Ao48 t288.length co48 : Value).ownBlock ∧ some k_ ≠ (.slice Ao49 t291.length co49 : Value).ownBlock ∧ k_ ≠ gb263 ∧ k_ ≠ gb264)) (by (with_reducible repeat (first | apply Kd.R_alloc | apply Kd.R_drewN | apply Kd.R_drew));exact Kd.R_mono HO297.out (fun _ hk => (by first | exact ⟨⟨hk.1.1.1.1.1.1.1.1.1.1.2,⟨hk.1.1.1.1.1.1.1.1.1.2,⟨hk.1.1.1.1.1.1.1.1.2,⟨hk.1.1.1.1.1.1.1.2,⟨hk.1.1.1.1.1.1.2,⟨hk.1.1.1.1.1.2,⟨hk.1.1.1.1.2,⟨hk.1.1.1.2,⟨hk.1.1.2,hk.1.2⟩⟩⟩⟩⟩⟩⟩⟩⟩,hk.2⟩ | simp_all))) hg hat);have n11_:=Aside0.mk (hb);have n12_:=Aside0.mk (ho);clear BK263;clear BK264;clear HO270;clear HO273;clear HO276;clear HO279;clear HO283;clear HO287;clear HO290;clear HO293;clear HO297;clear HB;clear HO300;have BK263:=n0_;have BK264:=n1_;have HO270:=n2_;have HO273:=n3_;have HO276:=n4_;have HO279:=n5_;have HO283:=n6_;have HO287:=n7_;have HO290:=n8_;have HO293:=n9_;have HO297:=n10_;have HB:=n11_;have HO303:=n12_;clear n0_ n1_ n2_ n3_ n4_ n5_ n6_ n7_ n8_ n9_ n10_ n11_ n12_;clear ho hb hg hat;obtain ⟨Ao54,co54,eo54⟩:=Kd.R_slice HO297.out;subst eo54;obtain ⟨Ao55,co55,eo55⟩:=Kd.R_slice HO303.out;subst eo55) | ((with_reducible refine gate_callee (f:=16) rfl ?_);refine goesL_ (some 57) rfl rfl Try.func16 (by kernel_rfl) rfl #[.slice Ao54 t295.length co54,.slice Ao55 y301.length co55] rfl (by (try simp only [List.map_toArray,List.map_cons,List.map_nil]);first | done | rfl | (simp only [List.length_drop,List.length_take];rfl)) ?_;(with_reducible refine (wigwagref07_Same.calls kj4 _ _ t295 _ _ y301 t304 _ ?side1 ?side2 ?side3 ?side4 A27.out).mono ?_);(case side1 => repeat (first | exact (Kd.R_reads' HO297.out).2.2 | (with_reducible refine Kd.C_alloc ?_ _) | (with_reducible refine Kd.C_drewN ?_ _) | (with_reducible refine Kd.C_drew ?_)));(case side2 => exact (Kd.R_reads' HO297.out).2.1);(case side3 => repeat (first | exact (Kd.R_reads' HO303.out).2.2 | (with_reducible refine Kd.C_alloc ?_ _) | (with_reducible refine Kd.C_drewN ?_ _) | (with_reducible refine Kd.C_drew ?_)));(case side4 => exact (Kd.R_reads' HO303.out).2.1);rintro e w' ⟨rfl,⟨nd,rfl⟩⟩;refine ⟨_,rfl,?_⟩))
     (try simp only [Act.put,List.setIfInBounds_toArray,List.set_cons_zero,List.set_cons_succ])
     have H:=HS28.out
     clear HS28
     by_cases c56 : t265 = true
     ·subst c56
      have H1 : (if t280 = true then (if t284 = true then (if t294 = true then (some t304) else (some false)) else (some false)) else (some false)) = some r:=by rw [if_pos rfl] at H;exact H
      clear H
      have H:=H1
      clear H1
      by_cases c57 : t280 = true
      ·subst c57
       have H1 : (if t284 = true then (if t294 = true then (some t304) else (some false)) else (some false)) = some r:=by rw [if_pos rfl] at H;exact H
       clear H
       have H:=H1
       clear H1
       by_cases c58 : t284 = true
       ·subst c58
        have H1 : (if t294 = true then (some t304) else (some false)) = some r:=by rw [if_pos rfl] at H;exact H
        clear H
        have H:=H1
        clear H1
        by_cases c59 : t294 = true
        ·subst c59
         have H1 : (some t304) = some r:=by rw [if_pos rfl] at H;exact H
         clear H
         have H:=H1
         clear H1
         obtain rfl:=Option.some.inj H
         go_wp2
         go_ret
         exact ⟨by first | rfl | (simp [errW_none,errW_some] <;> rfl) | (simp [*,errW_none,errW_some] <;> rfl),by repeat (first | (with_reducible first | exact HB.out | apply below_alloc | apply pw_below_drewN | apply below_drew1 | refine below_set ?_ GE263.out | refine below_set ?_ GE264.out) | exact HB.out)⟩
        ·replace c59:=Bool.eq_false_iff.mpr c59
         subst c59
         have H1 : (some false) = some r:=by rw [if_neg (show ¬ (false = true) by decide)] at H;exact H
         clear H
         have H:=H1
         clear H1
         obtain rfl:=Option.some.inj H
         go_wp2
         go_ret
         exact ⟨by first | rfl | (simp [errW_none,errW_some] <;> rfl) | (simp [*,errW_none,errW_some] <;> rfl),by repeat (first | (with_reducible first | exact HB.out | apply below_alloc | apply pw_below_drewN | apply below_drew1 | refine below_set ?_ GE263.out | refine below_set ?_ GE264.out) | exact HB.out)⟩
       ·replace c58:=Bool.eq_false_iff.mpr c58
        subst c58
        have H1 : (some false) = some r:=by rw [if_neg (show ¬ (false = true) by decide)] at H;exact H
        clear H
        have H:=H1
        clear H1
        obtain rfl:=Option.some.inj H
        go_wp2
        go_ret
        exact ⟨by first | rfl | (simp [errW_none,errW_some] <;> rfl) | (simp [*,errW_none,errW_some] <;> rfl),by repeat (first | (with_reducible first | exact HB.out | apply below_alloc | apply pw_below_drewN | apply below_drew1 | refine below_set ?_ GE263.out | refine below_set ?_ GE264.out) | exact HB.out)⟩
      ·replace c57:=Bool.eq_false_iff.mpr c57
       subst c57
       have H1 : (some false) = some r:=by rw [if_neg (show ¬ (false = true) by decide)] at H;exact H
       clear H
       have H:=H1
       clear H1
       obtain rfl:=Option.some.inj H
       go_wp2
       go_ret
       exact ⟨by first | rfl | (simp [errW_none,errW_some] <;> rfl) | (simp [*,errW_none,errW_some] <;> rfl),by repeat (first | (with_reducible first | exact HB.out | apply below_alloc | apply pw_below_drewN | apply below_drew1 | refine below_set ?_ GE263.out | refine below_set ?_ GE264.out) | exact HB.out)⟩
     ·replace c56:=Bool.eq_false_iff.mpr c56
      subst c56
      have H1 : (some false) = some r:=by rw [if_neg (show ¬ (false = true) by decide)] at H;exact H
      clear H
      have H:=H1
      clear H1
      obtain rfl:=Option.some.inj H
      go_wp2
      go_ret
      exact ⟨by first | rfl | (simp [errW_none,errW_some] <;> rfl) | (simp [*,errW_none,errW_some] <;> rfl),by repeat (first | (with_reducible first | exact HB.out | apply below_alloc | apply pw_below_drewN | apply below_drew1 | refine below_set ?_ GE263.out | refine below_set ?_ GE264.out) | exact HB.out)⟩
    ·rw [if_neg c26] at H
     exact absurd H (by simp)

end Go.Proofs.Ytgaccappklhojaa.P
