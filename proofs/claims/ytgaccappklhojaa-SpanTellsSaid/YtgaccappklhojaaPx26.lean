-- Printed for this claim by xprint.py of this session: contracts of this session's own stand in for what the print does not take
import Derived.Test.YtgaccappklhojaaPx0
import Derived.Test.YtgaccappklhojaaPx2
import Derived.Test.YtgaccappklhojaaPx4
import Derived.Test.YtgaccappklhojaaPx5
import Derived.Test.YtgaccappklhojaaPx6
import Derived.Test.YtgaccappklhojaaPx7
import Derived.Test.YtgaccappklhojaaPx8
import Derived.Test.YtgaccappklhojaaPx9
import Derived.Test.YtgaccappklhojaaPx10
import Derived.Test.YtgaccappklhojaaPx13
import Derived.Test.YtgaccappklhojaaPx17
import Derived.Test.YtgaccappklhojaaPx18
import Derived.Test.YtgaccappklhojaaPx20
import Derived.Test.YtgaccappklhojaaPx22
import Derived.Test.YtgaccappklhojaaPx23
import Derived.Test.YtgaccappklhojaaPx24
import Derived.Test.YtgaccappklhojaaPx25
namespace Go.Proofs.Ytgaccappklhojaa.P
open Go.RowKit Go.Proofs.YtgaccappklhojaaW.PrintWords Go.Proofs.YtgaccappklhojaaW.PrintLast Go.Proofs.YtgaccappklhojaaW.PrintMore
attribute [local go_sem] max2_int min2_int max_two min_two max_three min_three max_four min_four   -- for this text's walks alone
set_option linter.unusedVariables false
set_option linter.unusedSimpArgs false

/-! ### wigwaglaw07_SpanTells: function 3 -/
mutual
def wigwaglaw07_SpanTells.j0 : Nat → List (S25) → List (S25) → Int → Int → Bool → Bool → Int → Int → Option (Bool)
 | 0,_,_,_,_,_,_,_,_ => none
 | k + 1,x0,x1,x3,x4,x11,x24,x467000,x467001 => if x24 = true then (some x11) else ((span_Check.f k x0).bind fun t470 => ((wigwagref07_Check.f k x0).bind fun t471 => (if (t470 != t471) = true then (wigwaglaw07_SpanTells.j1 k x0 x1 x4 x11 true x467000 x467001) else ((span_Has.f k x0 x3).bind fun t472 => ((wigwagref07_Has.f k x0 x3).bind fun t473 => (wigwaglaw07_SpanTells.j1 k x0 x1 x4 x11 (t472 != t473) x467000 x467001))))))
def wigwaglaw07_SpanTells.j1 : Nat → List (S25) → List (S25) → Int → Bool → Bool → Int → Int → Option (Bool)
 | 0,_,_,_,_,_,_,_ => none
 | k + 1,x0,x1,x4,x11,x39,x467000,x467001 => if x39 = true then (some false) else ((span_Check.f k x0).bind fun t474 => (if t474 = true then ((span_Check.f k x1).bind fun t475 => (wigwaglaw07_SpanTells.j2 k x0 x1 x4 x11 (!t475) x467000 x467001)) else (wigwaglaw07_SpanTells.j2 k x0 x1 x4 x11 true x467000 x467001)))
def wigwaglaw07_SpanTells.j2 : Nat → List (S25) → List (S25) → Int → Bool → Bool → Int → Int → Option (Bool)
 | 0,_,_,_,_,_,_,_ => none
 | k + 1,x0,x1,x4,x11,x47,x467000,x467001 => if x47 = true then (some x11) else ((span_Add.f k x0 x467000 x467001).bind fun t476 => ((wigwagref07_Add.f k x0 x467000 x467001).bind fun t479 => ((wigwagref07_Same.f k t476 t479).bind fun t482 => ((span_Cut.f x0 x467000 x467001).bind fun t483 => ((wigwagref07_Cut.f k x0 x467000 x467001).bind fun t486 => ((wigwagref07_Same.f k t483 t486).bind fun t489 => ((span_Both.f k x0 x1).bind fun t490 => ((wigwagref07_Both.f k x0 x1).bind fun t493 => ((wigwagref07_Same.f k t490 t493).bind fun t496 => ((span_Last.f x0 x4).bind fun t497 => ((wigwagref07_Last.f x0 x4).bind fun t500 => ((wigwagref07_Same.f k t497 t500).bind fun t503 => (if x11 = true then (if t482 = true then (if t489 = true then (if t496 = true then (if t503 = true then ((span_Size.f k x0).bind fun t504 => ((wigwagref07_Size.f k x0).bind fun t505 => (some (t504 == t505)))) else (some false)) else (some false)) else (some false)) else (some false)) else (some false))))))))))))))
end
def wigwaglaw07_SpanTells.f (k : Nat) (l0 : List (S25)) (l1 : List (S25)) (a2_0 : Int) (a2_1 : Int) (a3 : Int) (a4 : Int) : Option (Bool):=(wigwaglaw07_awake.f k).bind fun t467 => ((wigwaglaw07_few.f l0).bind fun t468 => (if t468 = true then ((wigwaglaw07_few.f l1).bind fun t469 => (wigwaglaw07_SpanTells.j0 k l0 l1 a3 a4 t467 (!t469) a2_0 a2_1)) else (wigwaglaw07_SpanTells.j0 k l0 l1 a3 a4 t467 true a2_0 a2_1)))
theorem wigwaglaw07_SpanTells.mono_l : ∀ k,(∀ y0 y1 y2 y3 y4 y5 y6 y7,LeO (wigwaglaw07_SpanTells.j0 k y0 y1 y2 y3 y4 y5 y6 y7) (wigwaglaw07_SpanTells.j0 (k + 1) y0 y1 y2 y3 y4 y5 y6 y7)) ∧ (∀ y0 y1 y2 y3 y4 y5 y6,LeO (wigwaglaw07_SpanTells.j1 k y0 y1 y2 y3 y4 y5 y6) (wigwaglaw07_SpanTells.j1 (k + 1) y0 y1 y2 y3 y4 y5 y6)) ∧ (∀ y0 y1 y2 y3 y4 y5 y6,LeO (wigwaglaw07_SpanTells.j2 k y0 y1 y2 y3 y4 y5 y6) (wigwaglaw07_SpanTells.j2 (k + 1) y0 y1 y2 y3 y4 y5 y6))
 | 0 => ⟨fun _ _ _ _ _ _ _ _ r h => by simp [wigwaglaw07_SpanTells.j0] at h,fun _ _ _ _ _ _ _ r h => by simp [wigwaglaw07_SpanTells.j1] at h,fun _ _ _ _ _ _ _ r h => by simp [wigwaglaw07_SpanTells.j2] at h⟩
 | k + 1 => by
  obtain ⟨ih0,ih1,ih2⟩:=wigwaglaw07_SpanTells.mono_l k
  refine ⟨?_,?_,?_⟩
  ·intro y0 y1 y2 y3 y4 y5 y6 y7
   unfold wigwaglaw07_SpanTells.j0
   repeat' first
   | (with_reducible exact ih0 _ _ _ _ _ _ _ _)
   | (with_reducible exact ih1 _ _ _ _ _ _ _)
   | (with_reducible exact ih2 _ _ _ _ _ _ _)
   | (with_reducible exact span_Add.mono _ _ _ _)
   | (with_reducible exact span_Both.mono _ _ _)
   | (with_reducible exact span_Check.mono _ _)
   | (with_reducible exact span_Has.mono _ _ _)
   | (with_reducible exact span_Size.mono _ _)
   | (with_reducible exact wigwaglaw07_awake.mono _)
   | (with_reducible exact wigwagref07_Add.mono _ _ _ _)
   | (with_reducible exact wigwagref07_Both.mono _ _ _)
   | (with_reducible exact wigwagref07_Check.mono _ _)
   | (with_reducible exact wigwagref07_Cut.mono _ _ _ _)
   | (with_reducible exact wigwagref07_Has.mono _ _ _)
   | (with_reducible exact wigwagref07_Same.mono _ _ _)
   | (with_reducible exact wigwagref07_Size.mono _ _)
   | (with_reducible exact LeO.refl _)
   | (with_reducible exact LeO.none _)
   | (with_reducible refine LeO.ite ?_ ?_)
   | (with_reducible refine LeO.bind ?_ (fun _ => ?_))
   | exact ih0 _ _ _ _ _ _ _ _
   | exact ih1 _ _ _ _ _ _ _
   | exact ih2 _ _ _ _ _ _ _
   | exact span_Add.mono _ _ _ _
   | exact span_Both.mono _ _ _
   | exact span_Check.mono _ _
   | exact span_Has.mono _ _ _
   | exact span_Size.mono _ _
   | exact wigwaglaw07_awake.mono _
   | exact wigwagref07_Add.mono _ _ _ _
   | exact wigwagref07_Both.mono _ _ _
   | exact wigwagref07_Check.mono _ _
   | exact wigwagref07_Cut.mono _ _ _ _
   | exact wigwagref07_Has.mono _ _ _
   | exact wigwagref07_Same.mono _ _ _
   | exact wigwagref07_Size.mono _ _
   | exact LeO.none _
   | refine LeO.ite ?_ ?_
   | refine LeO.bind ?_ (fun _ => ?_)
  ·intro y0 y1 y2 y3 y4 y5 y6
   unfold wigwaglaw07_SpanTells.j1
   repeat' first
   | (with_reducible exact ih0 _ _ _ _ _ _ _ _)
   | (with_reducible exact ih1 _ _ _ _ _ _ _)
   | (with_reducible exact ih2 _ _ _ _ _ _ _)
   | (with_reducible exact span_Add.mono _ _ _ _)
   | (with_reducible exact span_Both.mono _ _ _)
   | (with_reducible exact span_Check.mono _ _)
   | (with_reducible exact span_Has.mono _ _ _)
   | (with_reducible exact span_Size.mono _ _)
   | (with_reducible exact wigwaglaw07_awake.mono _)
   | (with_reducible exact wigwagref07_Add.mono _ _ _ _)
   | (with_reducible exact wigwagref07_Both.mono _ _ _)
   | (with_reducible exact wigwagref07_Check.mono _ _)
   | (with_reducible exact wigwagref07_Cut.mono _ _ _ _)
   | (with_reducible exact wigwagref07_Has.mono _ _ _)
   | (with_reducible exact wigwagref07_Same.mono _ _ _)
   | (with_reducible exact wigwagref07_Size.mono _ _)
   | (with_reducible exact LeO.refl _)
   | (with_reducible exact LeO.none _)
   | (with_reducible refine LeO.ite ?_ ?_)
   | (with_reducible refine LeO.bind ?_ (fun _ => ?_))
   | exact ih0 _ _ _ _ _ _ _ _
   | exact ih1 _ _ _ _ _ _ _
   | exact ih2 _ _ _ _ _ _ _
   | exact span_Add.mono _ _ _ _
   | exact span_Both.mono _ _ _
   | exact span_Check.mono _ _
   | exact span_Has.mono _ _ _
   | exact span_Size.mono _ _
   | exact wigwaglaw07_awake.mono _
   | exact wigwagref07_Add.mono _ _ _ _
   | exact wigwagref07_Both.mono _ _ _
   | exact wigwagref07_Check.mono _ _
   | exact wigwagref07_Cut.mono _ _ _ _
   | exact wigwagref07_Has.mono _ _ _
   | exact wigwagref07_Same.mono _ _ _
   | exact wigwagref07_Size.mono _ _
   | exact LeO.none _
   | refine LeO.ite ?_ ?_
   | refine LeO.bind ?_ (fun _ => ?_)
  ·intro y0 y1 y2 y3 y4 y5 y6
   unfold wigwaglaw07_SpanTells.j2
   repeat' first
   | (with_reducible exact ih0 _ _ _ _ _ _ _ _)
   | (with_reducible exact ih1 _ _ _ _ _ _ _)
   | (with_reducible exact ih2 _ _ _ _ _ _ _)
   | (with_reducible exact span_Add.mono _ _ _ _)
   | (with_reducible exact span_Both.mono _ _ _)
   | (with_reducible exact span_Check.mono _ _)
   | (with_reducible exact span_Has.mono _ _ _)
   | (with_reducible exact span_Size.mono _ _)
   | (with_reducible exact wigwaglaw07_awake.mono _)
   | (with_reducible exact wigwagref07_Add.mono _ _ _ _)
   | (with_reducible exact wigwagref07_Both.mono _ _ _)
   | (with_reducible exact wigwagref07_Check.mono _ _)
   | (with_reducible exact wigwagref07_Cut.mono _ _ _ _)
   | (with_reducible exact wigwagref07_Has.mono _ _ _)
   | (with_reducible exact wigwagref07_Same.mono _ _ _)
   | (with_reducible exact wigwagref07_Size.mono _ _)
   | (with_reducible exact LeO.refl _)
   | (with_reducible exact LeO.none _)
   | (with_reducible refine LeO.ite ?_ ?_)
   | (with_reducible refine LeO.bind ?_ (fun _ => ?_))
   | exact ih0 _ _ _ _ _ _ _ _
   | exact ih1 _ _ _ _ _ _ _
   | exact ih2 _ _ _ _ _ _ _
   | exact span_Add.mono _ _ _ _
   | exact span_Both.mono _ _ _
   | exact span_Check.mono _ _
   | exact span_Has.mono _ _ _
   | exact span_Size.mono _ _
   | exact wigwaglaw07_awake.mono _
   | exact wigwagref07_Add.mono _ _ _ _
   | exact wigwagref07_Both.mono _ _ _
   | exact wigwagref07_Check.mono _ _
   | exact wigwagref07_Cut.mono _ _ _ _
   | exact wigwagref07_Has.mono _ _ _
   | exact wigwagref07_Same.mono _ _ _
   | exact wigwagref07_Size.mono _ _
   | exact LeO.none _
   | refine LeO.ite ?_ ?_
   | refine LeO.bind ?_ (fun _ => ?_)
theorem wigwaglaw07_SpanTells.mono : ∀ a0 a1 a2 a3 a4 a5 k,LeO (wigwaglaw07_SpanTells.f k a0 a1 a2 a3 a4 a5) (wigwaglaw07_SpanTells.f (k + 1) a0 a1 a2 a3 a4 a5):=by
 intro a0 a1 a2 a3 a4 a5 k
 obtain ⟨ih0,ih1,ih2⟩:=wigwaglaw07_SpanTells.mono_l k
 unfold wigwaglaw07_SpanTells.f
 repeat' first
   | (with_reducible exact ih0 _ _ _ _ _ _ _ _)
   | (with_reducible exact ih1 _ _ _ _ _ _ _)
   | (with_reducible exact ih2 _ _ _ _ _ _ _)
   | (with_reducible exact span_Add.mono _ _ _ _)
   | (with_reducible exact span_Both.mono _ _ _)
   | (with_reducible exact span_Check.mono _ _)
   | (with_reducible exact span_Has.mono _ _ _)
   | (with_reducible exact span_Size.mono _ _)
   | (with_reducible exact wigwaglaw07_awake.mono _)
   | (with_reducible exact wigwagref07_Add.mono _ _ _ _)
   | (with_reducible exact wigwagref07_Both.mono _ _ _)
   | (with_reducible exact wigwagref07_Check.mono _ _)
   | (with_reducible exact wigwagref07_Cut.mono _ _ _ _)
   | (with_reducible exact wigwagref07_Has.mono _ _ _)
   | (with_reducible exact wigwagref07_Same.mono _ _ _)
   | (with_reducible exact wigwagref07_Size.mono _ _)
   | (with_reducible exact LeO.refl _)
   | (with_reducible exact LeO.none _)
   | (with_reducible refine LeO.ite ?_ ?_)
   | (with_reducible refine LeO.bind ?_ (fun _ => ?_))
   | exact ih0 _ _ _ _ _ _ _ _
   | exact ih1 _ _ _ _ _ _ _
   | exact ih2 _ _ _ _ _ _ _
   | exact span_Add.mono _ _ _ _
   | exact span_Both.mono _ _ _
   | exact span_Check.mono _ _
   | exact span_Has.mono _ _ _
   | exact span_Size.mono _ _
   | exact wigwaglaw07_awake.mono _
   | exact wigwagref07_Add.mono _ _ _ _
   | exact wigwagref07_Both.mono _ _ _
   | exact wigwagref07_Check.mono _ _
   | exact wigwagref07_Cut.mono _ _ _ _
   | exact wigwagref07_Has.mono _ _ _
   | exact wigwagref07_Same.mono _ _ _
   | exact wigwagref07_Size.mono _ _
   | exact LeO.none _
   | refine LeO.ite ?_ ?_
   | refine LeO.bind ?_ (fun _ => ?_)
def wigwaglaw07_SpanTells.T8 : Bool × List (List Nat × List Nat):=(true,[([],[]),([],[]),([0,1],[0,1]),([],[]),([],[]),([3,4,2],[3,4]),([2,5,5],[2,5]),([6,6,0,1,2,3,4,5,6],[6])])
def wigwaglaw07_SpanTells.B8 : List Nat:=[0,0,3,0,0,31,63,127]
theorem wigwaglaw07_SpanTells.tab8 : rtab .any (opsOf Try.f3 8) = wigwaglaw07_SpanTells.T8:=by kernel_rfl
theorem wigwaglaw07_SpanTells.bits8 : waitsOk wigwaglaw07_SpanTells.T8.2 wigwaglaw07_SpanTells.B8 = true:=by kernel_rfl
def wigwaglaw07_SpanTells.T9 : Bool × List (List Nat × List Nat):=(true,[([],[]),([],[]),([0,1],[0,1]),([],[]),([],[]),([3,4,2],[3,4]),([2,5,5],[2,5]),([6,6,0,1,2,3,4,5,6],[6])])
def wigwaglaw07_SpanTells.B9 : List Nat:=[0,0,3,0,0,31,63,127]
theorem wigwaglaw07_SpanTells.tab9 : rtab .any (opsOf Try.f3 9) = wigwaglaw07_SpanTells.T9:=by kernel_rfl
theorem wigwaglaw07_SpanTells.bits9 : waitsOk wigwaglaw07_SpanTells.T9.2 wigwaglaw07_SpanTells.B9 = true:=by kernel_rfl
set_option maxHeartbeats 8000000 in
set_option maxRecDepth 100000 in
theorem wigwaglaw07_SpanTells.calls (k : Nat) (A0 : Option Addr) (c0 : Nat) (l0 : List (S25)) (A1 : Option Addr) (c1 : Nat) (l1 : List (S25)) (a2_0 : Int) (a2_1 : Int) (a3 : Int) (a4 : Int) (r : Bool) (w : World) (hr0 : Kd.C k25 w A0 l0.length l0) (hc0 : l0.length ≤ c0) (hr1 : Kd.C k25 w A1 l1.length l1) (hc1 : l1.length ≤ c1) (h : wigwaglaw07_SpanTells.f k l0 l1 a2_0 a2_1 a3 a4 = some r) :
  Calls Try.prog 3 #[.slice A0 l0.length c0,.slice A1 l1.length c1,.agg #[.int .u64 a2_0,.int .u64 a2_1],.int .u64 a3,.int .i64 a4] w fun e w' => e = .returned (.bool r) ∧ Below w.heap.size w w':=by
 have hu25:=Try.underlying25
 have HR0:=Aside0.mk hr0
 have HC0:=Aside0.mk hc0
 clear hr0 hc0
 have HR1:=Aside0.mk hr1
 have HC1:=Aside0.mk hc1
 clear hr1 hc1
 have HB:=Aside0.mk (Below.refl w.heap.size w)
 have H : ((wigwaglaw07_awake.f k).bind fun t467 => ((wigwaglaw07_few.f l0).bind fun t468 => (if t468 = true then ((wigwaglaw07_few.f l1).bind fun t469 => (wigwaglaw07_SpanTells.j0 k l0 l1 a3 a4 t467 (!t469) a2_0 a2_1)) else (wigwaglaw07_SpanTells.j0 k l0 l1 a3 a4 t467 true a2_0 a2_1)))) = some r:=h
 clear h
 replace H:=Option.bind_eq_some_iff.mp H
 obtain ⟨t467,A60,H⟩:=H
 replace H : ((wigwaglaw07_few.f l0).bind fun t468 => (if t468 = true then ((wigwaglaw07_few.f l1).bind fun t469 => (wigwaglaw07_SpanTells.j0 k l0 l1 a3 a4 t467 (!t469) a2_0 a2_1)) else (wigwaglaw07_SpanTells.j0 k l0 l1 a3 a4 t467 true a2_0 a2_1))) = some r:=H
 have A6:=Aside0.mk A60
 clear A60
 have HC7:=Aside0.mk H
 clear H
 go_enter Try.func3,Try.ntmps3
 go_upto_region 2 with (first | ((with_reducible refine gate_dst (N:=7) rfl ?_);refine box_event ?hg (N:=7) ?hd (cs:=#[.int .u64 a2_0,.int .u64 a2_1]) (t:=25) ?hr ?_;(case hd => rfl);(case hg => rfl);(case hr => first | (go_simp;done) | (go_simp;rfl));intro gb466 hg w8 hbox hb;have n0_:=Aside0.mk (below_step (by repeat (first | (with_reducible first | exact HB.out | apply below_alloc | apply pw_below_drewN | apply below_drew1) | exact HB.out)) hb);have n1_:=Aside0.mk (hbox);have n2_:=Aside0.mk ((by rw [hg];exact (below_size (by repeat (first | (with_reducible first | exact HB.out | apply below_alloc | apply pw_below_drewN | apply below_drew1) | exact HB.out))) : w.heap.size ≤ gb466));have n3_:=Aside0.mk ((by rw [hg];exact (below_size (by repeat (first | (with_reducible first | exact HB.out | apply below_alloc | apply pw_below_drewN | apply below_drew1) | exact HB.out))) : w.heap.size ≤ gb466));clear HB;have HB:=n0_;have BK466:=n1_;have GW466:=n2_;have GE466:=n3_;clear n0_ n1_ n2_ n3_;clear hb hbox hg) | ((with_reducible refine gate_callee (f:=10) rfl ?_);refine goesL_ (some 16) rfl rfl Try.func10 (by kernel_rfl) rfl #[] rfl (by (try simp only [List.map_toArray,List.map_cons,List.map_nil]);first | done | rfl | (simp only [List.length_drop,List.length_take];rfl)) ?_;(with_reducible refine (wigwaglaw07_awake.calls k  t467 _ A6.out).mono ?_);rintro e w9 ⟨rfl,hb⟩;refine ⟨_,rfl,?_⟩;have n0_:=Aside0.mk (blk_below (g:=gb466) (o:=.cells #[.int .u64 a2_0,.int .u64 a2_1] 25 (0,0)) (by (with_reducible repeat (first | refine blk_drewN ?_ _ | refine blk_drew ?_ | refine blk_alloc ?_ _));exact BK466.out) hb);have n1_:=Aside0.mk (below_step (by repeat (first | (with_reducible first | exact HB.out | apply below_alloc | apply pw_below_drewN | apply below_drew1 | refine below_set ?_ GE466.out) | exact HB.out)) hb);clear BK466;clear HB;have BK466:=n0_;have HB:=n1_;clear n0_ n1_;(try clear hb);(try clear hb2);(try clear hk);(try clear hi)))
 (try simp only [Act.put,List.setIfInBounds_toArray,List.set_cons_zero,List.set_cons_succ])
 go_cut [24] (fun v24 wc => ∃ (kq : Nat) (x24_6 : Bool),v24 = .bool x24_6 ∧ Aside0 (wigwaglaw07_SpanTells.j0 kq l0 l1 a3 a4 t467 x24_6 a2_0 a2_1 = some r) ∧ Aside0 (kq ≤ k) ∧ Aside0 (wc.heap[gb466]? = some (.cells #[.int .u64 a2_0,.int .u64 a2_1] 25 (0,0))) ∧ Aside0 (Below w.heap.size w wc))
 case first =>
  have H:=HC7.out
  clear HC7
  replace H:=Option.bind_eq_some_iff.mp H
  obtain ⟨t468,A100,H⟩:=H
  replace H : (if t468 = true then ((wigwaglaw07_few.f l1).bind fun t469 => (wigwaglaw07_SpanTells.j0 k l0 l1 a3 a4 t467 (!t469) a2_0 a2_1)) else (wigwaglaw07_SpanTells.j0 k l0 l1 a3 a4 t467 true a2_0 a2_1)) = some r:=H
  have A10:=Aside0.mk A100
  clear A100
  by_cases c11 : t468 = true
  ·subst c11
   have H1 : ((wigwaglaw07_few.f l1).bind fun t469 => (wigwaglaw07_SpanTells.j0 k l0 l1 a3 a4 t467 (!t469) a2_0 a2_1)) = some r:=by rw [if_pos rfl] at H;exact H
   clear H
   have H:=H1
   clear H1
   replace H:=Option.bind_eq_some_iff.mp H
   obtain ⟨t469,A120,H⟩:=H
   replace H : (wigwaglaw07_SpanTells.j0 k l0 l1 a3 a4 t467 (!t469) a2_0 a2_1) = some r:=H
   have A12:=Aside0.mk A120
   clear A120
   have H':=Aside0.mk H
   clear H
   go_wp2_with (first | ((with_reducible refine gate_callee (f:=11) rfl ?_);refine goesL_ (some 18) rfl rfl Try.func11 (by kernel_rfl) rfl #[.slice A0 l0.length c0] rfl (by (try simp only [List.map_toArray,List.map_cons,List.map_nil]);first | done | rfl | (simp only [List.length_drop,List.length_take];rfl)) ?_;(with_reducible refine (wigwaglaw07_few.calls _ _ l0 true _ ?side1 ?side2 A10.out).mono ?_);(case side1 => repeat (first | exact (Kd.C_below HR0.out HB.out) | (with_reducible refine Kd.C_alloc ?_ _) | (with_reducible refine Kd.C_drewN ?_ _) | (with_reducible refine Kd.C_drew ?_)));(case side2 => exact HC0.out);rintro e w' ⟨rfl,⟨nd,rfl⟩⟩;refine ⟨_,rfl,?_⟩) | (go_at_call 11;(with_reducible refine (wigwaglaw07_few.calls _ _ l1 t469 _ ?side1 ?side2 A12.out).mono ?_);(case side1 => repeat (first | exact (Kd.C_below HR1.out (by repeat (first | (with_reducible first | exact HB.out | apply below_alloc | apply pw_below_drewN | apply below_drew1 | refine below_set ?_ GE466.out) | exact HB.out))) | (with_reducible refine Kd.C_alloc ?_ _) | (with_reducible refine Kd.C_drewN ?_ _) | (with_reducible refine Kd.C_drew ?_)));(case side2 => exact HC1.out);rintro e w' ⟨rfl,⟨nd,rfl⟩⟩))
   go_meet
   case rel => exact ⟨_,(!t469),(by first | rfl | (simp;done) | (simp [*];done)),H',⟨by first | omega | exact Nat.le_refl _⟩,⟨by (with_reducible repeat (first | refine blk_drewN ?_ _ | refine blk_drew ?_ | refine blk_alloc ?_ _));exact BK466.out⟩,⟨by repeat (first | (with_reducible first | exact HB.out | apply below_alloc | apply pw_below_drewN | apply below_drew1 | refine below_set ?_ GE466.out) | exact HB.out)⟩⟩
  ·replace c11:=Bool.eq_false_iff.mpr c11
   subst c11
   have H1 : (wigwaglaw07_SpanTells.j0 k l0 l1 a3 a4 t467 true a2_0 a2_1) = some r:=by rw [if_neg (show ¬ (false = true) by decide)] at H;exact H
   clear H
   have H:=H1
   clear H1
   have H':=Aside0.mk H
   clear H
   go_wp2_with (first | ((with_reducible refine gate_callee (f:=11) rfl ?_);refine goesL_ (some 18) rfl rfl Try.func11 (by kernel_rfl) rfl #[.slice A0 l0.length c0] rfl (by (try simp only [List.map_toArray,List.map_cons,List.map_nil]);first | done | rfl | (simp only [List.length_drop,List.length_take];rfl)) ?_;(with_reducible refine (wigwaglaw07_few.calls _ _ l0 false _ ?side1 ?side2 A10.out).mono ?_);(case side1 => repeat (first | exact (Kd.C_below HR0.out HB.out) | (with_reducible refine Kd.C_alloc ?_ _) | (with_reducible refine Kd.C_drewN ?_ _) | (with_reducible refine Kd.C_drew ?_)));(case side2 => exact HC0.out);rintro e w' ⟨rfl,⟨nd,rfl⟩⟩;refine ⟨_,rfl,?_⟩))
   go_meet
   case rel => exact ⟨_,(true),(by first | rfl | (simp;done) | (simp [*];done)),H',⟨by first | omega | exact Nat.le_refl _⟩,⟨by (with_reducible repeat (first | refine blk_drewN ?_ _ | refine blk_drew ?_ | refine blk_alloc ?_ _));exact BK466.out⟩,⟨by repeat (first | (with_reducible first | exact HB.out | apply below_alloc | apply pw_below_drewN | apply below_drew1 | refine below_set ?_ GE466.out) | exact HB.out)⟩⟩
 case rest =>
  clear HC7
  try clear c1
  try clear p2
  try clear c3
  try clear c10
  try clear c11
  obtain ⟨kq,x24_6,rfl,HA,HJ6,BK466,HB⟩:=hcut
  cases kq with
  | zero => exact absurd HA.out (by simp [wigwaglaw07_SpanTells.j0])
  | succ kj6 =>
   have H:=HA.out
   clear HA
   simp only [wigwaglaw07_SpanTells.j0] at H
   by_cases c13 : x24_6 = true
   ·subst c13
    have H1 : (some t467) = some r:=by rw [if_pos rfl] at H;exact H
    clear H
    have H:=H1
    clear H1
    obtain rfl:=Option.some.inj H
    go_wp2
    go_ret
    exact ⟨by first | rfl | (simp [errW_none,errW_some] <;> rfl) | (simp [*,errW_none,errW_some] <;> rfl),by repeat (first | (with_reducible first | exact HB.out | apply below_alloc | apply pw_below_drewN | apply below_drew1 | refine below_set ?_ GE466.out) | exact HB.out)⟩
   ·replace c13:=Bool.eq_false_iff.mpr c13
    subst c13
    have H1 : ((span_Check.f kj6 l0).bind fun t470 => ((wigwagref07_Check.f kj6 l0).bind fun t471 => (if (t470 != t471) = true then (wigwaglaw07_SpanTells.j1 kj6 l0 l1 a4 t467 true a2_0 a2_1) else ((span_Has.f kj6 l0 a3).bind fun t472 => ((wigwagref07_Has.f kj6 l0 a3).bind fun t473 => (wigwaglaw07_SpanTells.j1 kj6 l0 l1 a4 t467 (t472 != t473) a2_0 a2_1)))))) = some r:=by rw [if_neg (show ¬ (false = true) by decide)] at H;exact H
    clear H
    have H:=H1
    clear H1
    have HC14:=Aside0.mk H
    clear H
    go_upto_region 4 with (fail)
    go_cut [39] (fun v39 wc => ∃ (kq : Nat) (x39_13 : Bool),v39 = .bool x39_13 ∧ Aside0 (wigwaglaw07_SpanTells.j1 kq l0 l1 a4 t467 x39_13 a2_0 a2_1 = some r) ∧ Aside0 (kq ≤ kj6) ∧ Aside0 (wc.heap[gb466]? = some (.cells #[.int .u64 a2_0,.int .u64 a2_1] 25 (0,0))) ∧ Aside0 (Below w.heap.size w wc))
    case first =>
     have H:=HC14.out
     clear HC14
     replace H:=Option.bind_eq_some_iff.mp H
     obtain ⟨t470,A150,H⟩:=H
     replace H : ((wigwagref07_Check.f kj6 l0).bind fun t471 => (if (t470 != t471) = true then (wigwaglaw07_SpanTells.j1 kj6 l0 l1 a4 t467 true a2_0 a2_1) else ((span_Has.f kj6 l0 a3).bind fun t472 => ((wigwagref07_Has.f kj6 l0 a3).bind fun t473 => (wigwaglaw07_SpanTells.j1 kj6 l0 l1 a4 t467 (t472 != t473) a2_0 a2_1))))) = some r:=H
     have A15:=Aside0.mk A150
     clear A150
     replace H:=Option.bind_eq_some_iff.mp H
     obtain ⟨t471,A160,H⟩:=H
     replace H : (if (t470 != t471) = true then (wigwaglaw07_SpanTells.j1 kj6 l0 l1 a4 t467 true a2_0 a2_1) else ((span_Has.f kj6 l0 a3).bind fun t472 => ((wigwagref07_Has.f kj6 l0 a3).bind fun t473 => (wigwaglaw07_SpanTells.j1 kj6 l0 l1 a4 t467 (t472 != t473) a2_0 a2_1)))) = some r:=H
     have A16:=Aside0.mk A160
     clear A160
     by_cases c17 : (t470 != t471) = true
     ·rw [if_pos c17] at H
      have c17b0 : (t470 != t471) = true:=c17
      (try (have c17b1 : decide (t470 = t471) = false:=by simpa using c17))
      (try (have c17b2 : (t470 == t471) = false:=by simpa using c17))
      (try (have c17b3 : ¬ (t470 = t471):=by simpa using c17))
      clear c17
      (first | rw [c17b0] | (simp only [i64_w,i32_w];rw [c17b0]) | skip)
      have H':=Aside0.mk H
      clear H
      go_wp2_with (first | ((with_reducible refine gate_callee (f:=12) rfl ?_);refine goesL_ (some 27) rfl rfl Try.func12 (by kernel_rfl) rfl #[.slice A0 l0.length c0] rfl (by (try simp only [List.map_toArray,List.map_cons,List.map_nil]);first | done | rfl | (simp only [List.length_drop,List.length_take];rfl)) ?_;(with_reducible refine (span_Check.calls kj6 _ _ l0 t470 _ ?side1 ?side2 A15.out).mono ?_);(case side1 => repeat (first | exact (Kd.C_below HR0.out HB.out) | (with_reducible refine Kd.C_alloc ?_ _) | (with_reducible refine Kd.C_drewN ?_ _) | (with_reducible refine Kd.C_drew ?_)));(case side2 => exact HC0.out);rintro e w18 ⟨rfl,hb⟩;refine ⟨_,rfl,?_⟩;have n0_:=Aside0.mk (blk_below (g:=gb466) (o:=.cells #[.int .u64 a2_0,.int .u64 a2_1] 25 (0,0)) (by (with_reducible repeat (first | refine blk_drewN ?_ _ | refine blk_drew ?_ | refine blk_alloc ?_ _));exact BK466.out) hb);have n1_:=Aside0.mk (below_step (by repeat (first | (with_reducible first | exact HB.out | apply below_alloc | apply pw_below_drewN | apply below_drew1 | refine below_set ?_ GE466.out) | exact HB.out)) hb);clear BK466;clear HB;have BK466:=n0_;have HB:=n1_;clear n0_ n1_;(try clear hb);(try clear hb2);(try clear hk);(try clear hi)) | ((with_reducible refine gate_callee (f:=13) rfl ?_);refine goesL_ (some 29) rfl rfl Try.func13 (by kernel_rfl) rfl #[.slice A0 l0.length c0] rfl (by (try simp only [List.map_toArray,List.map_cons,List.map_nil]);first | done | rfl | (simp only [List.length_drop,List.length_take];rfl)) ?_;(with_reducible refine (wigwagref07_Check.calls kj6 _ _ l0 t471 _ ?side1 ?side2 A16.out).mono ?_);(case side1 => repeat (first | exact (Kd.C_below HR0.out HB.out) | (with_reducible refine Kd.C_alloc ?_ _) | (with_reducible refine Kd.C_drewN ?_ _) | (with_reducible refine Kd.C_drew ?_)));(case side2 => exact HC0.out);rintro e w' ⟨rfl,⟨nd,rfl⟩⟩;refine ⟨_,rfl,?_⟩))
      go_meet
      case rel => exact ⟨_,(true),(by first | rfl | (simp;done) | (simp [*];done)),H',⟨by have:=HJ6.out;first | omega | exact Nat.le_refl _⟩,⟨by (with_reducible repeat (first | refine blk_drewN ?_ _ | refine blk_drew ?_ | refine blk_alloc ?_ _));exact BK466.out⟩,⟨by repeat (first | (with_reducible first | exact HB.out | apply below_alloc | apply pw_below_drewN | apply below_drew1 | refine below_set ?_ GE466.out) | exact HB.out)⟩⟩
     ·rw [if_neg c17] at H
      have c17b0 : (t470 != t471) = false:=by simpa using c17
      (try (have c17b1 : decide (t470 = t471) = true:=by simpa using c17))
      (try (have c17b2 : (t470 == t471) = true:=by simpa using c17))
      clear c17
      (first | rw [c17b0] | (simp only [i64_w,i32_w];rw [c17b0]) | skip)
      replace H:=Option.bind_eq_some_iff.mp H
      obtain ⟨t472,A190,H⟩:=H
      replace H : ((wigwagref07_Has.f kj6 l0 a3).bind fun t473 => (wigwaglaw07_SpanTells.j1 kj6 l0 l1 a4 t467 (t472 != t473) a2_0 a2_1)) = some r:=H
      have A19:=Aside0.mk A190
      clear A190
      replace H:=Option.bind_eq_some_iff.mp H
      obtain ⟨t473,A200,H⟩:=H
      replace H : (wigwaglaw07_SpanTells.j1 kj6 l0 l1 a4 t467 (t472 != t473) a2_0 a2_1) = some r:=H
      have A20:=Aside0.mk A200
      clear A200
      have H':=Aside0.mk H
      clear H
      go_wp2_with (first | ((with_reducible refine gate_callee (f:=12) rfl ?_);refine goesL_ (some 27) rfl rfl Try.func12 (by kernel_rfl) rfl #[.slice A0 l0.length c0] rfl (by (try simp only [List.map_toArray,List.map_cons,List.map_nil]);first | done | rfl | (simp only [List.length_drop,List.length_take];rfl)) ?_;(with_reducible refine (span_Check.calls kj6 _ _ l0 t470 _ ?side1 ?side2 A15.out).mono ?_);(case side1 => repeat (first | exact (Kd.C_below HR0.out HB.out) | (with_reducible refine Kd.C_alloc ?_ _) | (with_reducible refine Kd.C_drewN ?_ _) | (with_reducible refine Kd.C_drew ?_)));(case side2 => exact HC0.out);rintro e w21 ⟨rfl,hb⟩;refine ⟨_,rfl,?_⟩;have n0_:=Aside0.mk (blk_below (g:=gb466) (o:=.cells #[.int .u64 a2_0,.int .u64 a2_1] 25 (0,0)) (by (with_reducible repeat (first | refine blk_drewN ?_ _ | refine blk_drew ?_ | refine blk_alloc ?_ _));exact BK466.out) hb);have n1_:=Aside0.mk (below_step (by repeat (first | (with_reducible first | exact HB.out | apply below_alloc | apply pw_below_drewN | apply below_drew1 | refine below_set ?_ GE466.out) | exact HB.out)) hb);clear BK466;clear HB;have BK466:=n0_;have HB:=n1_;clear n0_ n1_;(try clear hb);(try clear hb2);(try clear hk);(try clear hi)) | ((with_reducible refine gate_callee (f:=13) rfl ?_);refine goesL_ (some 29) rfl rfl Try.func13 (by kernel_rfl) rfl #[.slice A0 l0.length c0] rfl (by (try simp only [List.map_toArray,List.map_cons,List.map_nil]);first | done | rfl | (simp only [List.length_drop,List.length_take];rfl)) ?_;(with_reducible refine (wigwagref07_Check.calls kj6 _ _ l0 t471 _ ?side1 ?side2 A16.out).mono ?_);(case side1 => repeat (first | exact (Kd.C_below HR0.out HB.out) | (with_reducible refine Kd.C_alloc ?_ _) | (with_reducible refine Kd.C_drewN ?_ _) | (with_reducible refine Kd.C_drew ?_)));(case side2 => exact HC0.out);rintro e w' ⟨rfl,⟨nd,rfl⟩⟩;refine ⟨_,rfl,?_⟩) | (go_at_call 14;(with_reducible refine (span_Has.calls kj6 _ _ l0 a3 t472 _ ?side1 ?side2 A19.out).mono ?_);(case side1 => repeat (first | exact (Kd.C_below HR0.out (by repeat (first | (with_reducible first | exact HB.out | apply below_alloc | apply pw_below_drewN | apply below_drew1 | refine below_set ?_ GE466.out) | exact HB.out))) | (with_reducible refine Kd.C_alloc ?_ _) | (with_reducible refine Kd.C_drewN ?_ _) | (with_reducible refine Kd.C_drew ?_)));(case side2 => exact HC0.out);rintro e w22 ⟨rfl,hb⟩;have n0_:=Aside0.mk (blk_below (g:=gb466) (o:=.cells #[.int .u64 a2_0,.int .u64 a2_1] 25 (0,0)) (by (with_reducible repeat (first | refine blk_drewN ?_ _ | refine blk_drew ?_ | refine blk_alloc ?_ _));exact BK466.out) hb);have n1_:=Aside0.mk (below_step (by repeat (first | (with_reducible first | exact HB.out | apply below_alloc | apply pw_below_drewN | apply below_drew1 | refine below_set ?_ GE466.out) | exact HB.out)) hb);clear BK466;clear HB;have BK466:=n0_;have HB:=n1_;clear n0_ n1_;(try clear hb);(try clear hb2);(try clear hk);(try clear hi)) | (go_at_call 15;(with_reducible refine (wigwagref07_Has.calls kj6 _ _ l0 a3 t473 _ ?side1 ?side2 A20.out).mono ?_);(case side1 => repeat (first | exact (Kd.C_below HR0.out HB.out) | (with_reducible refine Kd.C_alloc ?_ _) | (with_reducible refine Kd.C_drewN ?_ _) | (with_reducible refine Kd.C_drew ?_)));(case side2 => exact HC0.out);rintro e w' ⟨rfl,⟨nd,rfl⟩⟩))
      go_meet
      case rel => exact ⟨_,((t472 != t473)),(by first | rfl | (simp;done) | (simp [*];done)),H',⟨by have:=HJ6.out;first | omega | exact Nat.le_refl _⟩,⟨by (with_reducible repeat (first | refine blk_drewN ?_ _ | refine blk_drew ?_ | refine blk_alloc ?_ _));exact BK466.out⟩,⟨by repeat (first | (with_reducible first | exact HB.out | apply below_alloc | apply pw_below_drewN | apply below_drew1 | refine below_set ?_ GE466.out) | exact HB.out)⟩⟩
    case rest =>
     clear HC14
     try clear c1
     try clear p2
     try clear c3
     try clear c10
     try clear c11
     try clear c12
     try clear c13
     try clear c17
     try clear c17b0
     try clear c17b1
     try clear c17b2
     try clear p2
     obtain ⟨kq,x39_13,rfl,HA,HJ13,BK466,HB⟩:=hcut
     cases kq with
     | zero => exact absurd HA.out (by simp [wigwaglaw07_SpanTells.j1])
     | succ kj13 =>
      have H:=HA.out
      clear HA
      simp only [wigwaglaw07_SpanTells.j1] at H
      by_cases c23 : x39_13 = true
      ·subst c23
       have H1 : (some false) = some r:=by rw [if_pos rfl] at H;exact H
       clear H
       have H:=H1
       clear H1
       obtain rfl:=Option.some.inj H
       go_wp2
       go_ret
       exact ⟨by first | rfl | (simp [errW_none,errW_some] <;> rfl) | (simp [*,errW_none,errW_some] <;> rfl),by repeat (first | (with_reducible first | exact HB.out | apply below_alloc | apply pw_below_drewN | apply below_drew1 | refine below_set ?_ GE466.out) | exact HB.out)⟩
      ·replace c23:=Bool.eq_false_iff.mpr c23
       subst c23
       have H1 : ((span_Check.f kj13 l0).bind fun t474 => (if t474 = true then ((span_Check.f kj13 l1).bind fun t475 => (wigwaglaw07_SpanTells.j2 kj13 l0 l1 a4 t467 (!t475) a2_0 a2_1)) else (wigwaglaw07_SpanTells.j2 kj13 l0 l1 a4 t467 true a2_0 a2_1))) = some r:=by rw [if_neg (show ¬ (false = true) by decide)] at H;exact H
       clear H
       have H:=H1
       clear H1
       have HC24:=Aside0.mk H
       clear H
       go_upto_region 6 with (fail)
       go_cut [47] (fun v47 wc => ∃ (kq : Nat) (x47_23 : Bool),v47 = .bool x47_23 ∧ Aside0 (wigwaglaw07_SpanTells.j2 kq l0 l1 a4 t467 x47_23 a2_0 a2_1 = some r) ∧ Aside0 (kq ≤ kj13) ∧ Aside0 (wc.heap[gb466]? = some (.cells #[.int .u64 a2_0,.int .u64 a2_1] 25 (0,0))) ∧ Aside0 (Below w.heap.size w wc))
       case first =>
        have H:=HC24.out
        clear HC24
        replace H:=Option.bind_eq_some_iff.mp H
        obtain ⟨t474,A250,H⟩:=H
        replace H : (if t474 = true then ((span_Check.f kj13 l1).bind fun t475 => (wigwaglaw07_SpanTells.j2 kj13 l0 l1 a4 t467 (!t475) a2_0 a2_1)) else (wigwaglaw07_SpanTells.j2 kj13 l0 l1 a4 t467 true a2_0 a2_1)) = some r:=H
        have A25:=Aside0.mk A250
        clear A250
        by_cases c26 : t474 = true
        ·subst c26
         have H1 : ((span_Check.f kj13 l1).bind fun t475 => (wigwaglaw07_SpanTells.j2 kj13 l0 l1 a4 t467 (!t475) a2_0 a2_1)) = some r:=by rw [if_pos rfl] at H;exact H
         clear H
         have H:=H1
         clear H1
         replace H:=Option.bind_eq_some_iff.mp H
         obtain ⟨t475,A270,H⟩:=H
         replace H : (wigwaglaw07_SpanTells.j2 kj13 l0 l1 a4 t467 (!t475) a2_0 a2_1) = some r:=H
         have A27:=Aside0.mk A270
         clear A270
         have H':=Aside0.mk H
         clear H
         go_wp2_with (first | ((with_reducible refine gate_callee (f:=12) rfl ?_);refine goesL_ (some 41) rfl rfl Try.func12 (by kernel_rfl) rfl #[.slice A0 l0.length c0] rfl (by (try simp only [List.map_toArray,List.map_cons,List.map_nil]);first | done | rfl | (simp only [List.length_drop,List.length_take];rfl)) ?_;(with_reducible refine (span_Check.calls kj13 _ _ l0 true _ ?side1 ?side2 A25.out).mono ?_);(case side1 => repeat (first | exact (Kd.C_below HR0.out HB.out) | (with_reducible refine Kd.C_alloc ?_ _) | (with_reducible refine Kd.C_drewN ?_ _) | (with_reducible refine Kd.C_drew ?_)));(case side2 => exact HC0.out);rintro e w28 ⟨rfl,hb⟩;refine ⟨_,rfl,?_⟩;have n0_:=Aside0.mk (blk_below (g:=gb466) (o:=.cells #[.int .u64 a2_0,.int .u64 a2_1] 25 (0,0)) (by (with_reducible repeat (first | refine blk_drewN ?_ _ | refine blk_drew ?_ | refine blk_alloc ?_ _));exact BK466.out) hb);have n1_:=Aside0.mk (below_step (by repeat (first | (with_reducible first | exact HB.out | apply below_alloc | apply pw_below_drewN | apply below_drew1 | refine below_set ?_ GE466.out) | exact HB.out)) hb);clear BK466;clear HB;have BK466:=n0_;have HB:=n1_;clear n0_ n1_;(try clear hb);(try clear hb2);(try clear hk);(try clear hi)) | (go_at_call 12;(with_reducible refine (span_Check.calls kj13 _ _ l1 t475 _ ?side1 ?side2 A27.out).mono ?_);(case side1 => repeat (first | exact (Kd.C_below HR1.out HB.out) | (with_reducible refine Kd.C_alloc ?_ _) | (with_reducible refine Kd.C_drewN ?_ _) | (with_reducible refine Kd.C_drew ?_)));(case side2 => exact HC1.out);rintro e w29 ⟨rfl,hb⟩;have n0_:=Aside0.mk (blk_below (g:=gb466) (o:=.cells #[.int .u64 a2_0,.int .u64 a2_1] 25 (0,0)) (by (with_reducible repeat (first | refine blk_drewN ?_ _ | refine blk_drew ?_ | refine blk_alloc ?_ _));exact BK466.out) hb);have n1_:=Aside0.mk (below_step (by repeat (first | (with_reducible first | exact HB.out | apply below_alloc | apply pw_below_drewN | apply below_drew1 | refine below_set ?_ GE466.out) | exact HB.out)) hb);clear BK466;clear HB;have BK466:=n0_;have HB:=n1_;clear n0_ n1_;(try clear hb);(try clear hb2);(try clear hk);(try clear hi)))
         go_meet
         case rel => exact ⟨_,(!t475),(by first | rfl | (simp;done) | (simp [*];done)),H',⟨by have:=HJ6.out;have:=HJ13.out;first | omega | exact Nat.le_refl _⟩,⟨by (with_reducible repeat (first | refine blk_drewN ?_ _ | refine blk_drew ?_ | refine blk_alloc ?_ _));exact BK466.out⟩,⟨by repeat (first | (with_reducible first | exact HB.out | apply below_alloc | apply pw_below_drewN | apply below_drew1 | refine below_set ?_ GE466.out) | exact HB.out)⟩⟩
        ·replace c26:=Bool.eq_false_iff.mpr c26
         subst c26
         have H1 : (wigwaglaw07_SpanTells.j2 kj13 l0 l1 a4 t467 true a2_0 a2_1) = some r:=by rw [if_neg (show ¬ (false = true) by decide)] at H;exact H
         clear H
         have H:=H1
         clear H1
         have H':=Aside0.mk H
         clear H
         go_wp2_with (first | ((with_reducible refine gate_callee (f:=12) rfl ?_);refine goesL_ (some 41) rfl rfl Try.func12 (by kernel_rfl) rfl #[.slice A0 l0.length c0] rfl (by (try simp only [List.map_toArray,List.map_cons,List.map_nil]);first | done | rfl | (simp only [List.length_drop,List.length_take];rfl)) ?_;(with_reducible refine (span_Check.calls kj13 _ _ l0 false _ ?side1 ?side2 A25.out).mono ?_);(case side1 => repeat (first | exact (Kd.C_below HR0.out HB.out) | (with_reducible refine Kd.C_alloc ?_ _) | (with_reducible refine Kd.C_drewN ?_ _) | (with_reducible refine Kd.C_drew ?_)));(case side2 => exact HC0.out);rintro e w30 ⟨rfl,hb⟩;refine ⟨_,rfl,?_⟩;have n0_:=Aside0.mk (blk_below (g:=gb466) (o:=.cells #[.int .u64 a2_0,.int .u64 a2_1] 25 (0,0)) (by (with_reducible repeat (first | refine blk_drewN ?_ _ | refine blk_drew ?_ | refine blk_alloc ?_ _));exact BK466.out) hb);have n1_:=Aside0.mk (below_step (by repeat (first | (with_reducible first | exact HB.out | apply below_alloc | apply pw_below_drewN | apply below_drew1 | refine below_set ?_ GE466.out) | exact HB.out)) hb);clear BK466;clear HB;have BK466:=n0_;have HB:=n1_;clear n0_ n1_;(try clear hb);(try clear hb2);(try clear hk);(try clear hi)))
         go_meet
         case rel => exact ⟨_,(true),(by first | rfl | (simp;done) | (simp [*];done)),H',⟨by have:=HJ6.out;have:=HJ13.out;first | omega | exact Nat.le_refl _⟩,⟨by (with_reducible repeat (first | refine blk_drewN ?_ _ | refine blk_drew ?_ | refine blk_alloc ?_ _));exact BK466.out⟩,⟨by repeat (first | (with_reducible first | exact HB.out | apply below_alloc | apply pw_below_drewN | apply below_drew1 | refine below_set ?_ GE466.out) | exact HB.out)⟩⟩
       case rest =>
        clear HC24
        try clear c1
        try clear c2
        try clear p2
        try clear c3
        try clear c10
        try clear c11
        try clear c12
        try clear c13
        try clear c17
        try clear c17b0
        try clear c17b1
        try clear c17b2
        try clear c23
        try clear c26
        try clear p2
        obtain ⟨kq,x47_23,rfl,HA,HJ23,BK466,HB⟩:=hcut
        cases kq with
        | zero => exact absurd HA.out (by simp [wigwaglaw07_SpanTells.j2])
        | succ kj23 =>
         have H:=HA.out
         clear HA
         simp only [wigwaglaw07_SpanTells.j2] at H
         by_cases c31 : x47_23 = true
         ·subst c31
          have H1 : (some t467) = some r:=by rw [if_pos rfl] at H;exact H
          clear H
          have H:=H1
          clear H1
          obtain rfl:=Option.some.inj H
          go_wp2
          go_ret
          exact ⟨by first | rfl | (simp [errW_none,errW_some] <;> rfl) | (simp [*,errW_none,errW_some] <;> rfl),by repeat (first | (with_reducible first | exact HB.out | apply below_alloc | apply pw_below_drewN | apply below_drew1 | refine below_set ?_ GE466.out) | exact HB.out)⟩
         ·replace c31:=Bool.eq_false_iff.mpr c31
          subst c31
          have H1 : ((span_Add.f kj23 l0 a2_0 a2_1).bind fun t476 => ((wigwagref07_Add.f kj23 l0 a2_0 a2_1).bind fun t479 => ((wigwagref07_Same.f kj23 t476 t479).bind fun t482 => ((span_Cut.f l0 a2_0 a2_1).bind fun t483 => ((wigwagref07_Cut.f kj23 l0 a2_0 a2_1).bind fun t486 => ((wigwagref07_Same.f kj23 t483 t486).bind fun t489 => ((span_Both.f kj23 l0 l1).bind fun t490 => ((wigwagref07_Both.f kj23 l0 l1).bind fun t493 => ((wigwagref07_Same.f kj23 t490 t493).bind fun t496 => ((span_Last.f l0 a4).bind fun t497 => ((wigwagref07_Last.f l0 a4).bind fun t500 => ((wigwagref07_Same.f kj23 t497 t500).bind fun t503 => (if t467 = true then (if t482 = true then (if t489 = true then (if t496 = true then (if t503 = true then ((span_Size.f kj23 l0).bind fun t504 => ((wigwagref07_Size.f kj23 l0).bind fun t505 => (some (t504 == t505)))) else (some false)) else (some false)) else (some false)) else (some false)) else (some false)))))))))))))) = some r:=by rw [if_neg (show ¬ (false = true) by decide)] at H;exact H
          clear H
          have H:=H1
          clear H1
          replace H:=Option.bind_eq_some_iff.mp H
          obtain ⟨t476,A320,H⟩:=H
          replace H : ((wigwagref07_Add.f kj23 l0 a2_0 a2_1).bind fun t479 => ((wigwagref07_Same.f kj23 t476 t479).bind fun t482 => ((span_Cut.f l0 a2_0 a2_1).bind fun t483 => ((wigwagref07_Cut.f kj23 l0 a2_0 a2_1).bind fun t486 => ((wigwagref07_Same.f kj23 t483 t486).bind fun t489 => ((span_Both.f kj23 l0 l1).bind fun t490 => ((wigwagref07_Both.f kj23 l0 l1).bind fun t493 => ((wigwagref07_Same.f kj23 t490 t493).bind fun t496 => ((span_Last.f l0 a4).bind fun t497 => ((wigwagref07_Last.f l0 a4).bind fun t500 => ((wigwagref07_Same.f kj23 t497 t500).bind fun t503 => (if t467 = true then (if t482 = true then (if t489 = true then (if t496 = true then (if t503 = true then ((span_Size.f kj23 l0).bind fun t504 => ((wigwagref07_Size.f kj23 l0).bind fun t505 => (some (t504 == t505)))) else (some false)) else (some false)) else (some false)) else (some false)) else (some false))))))))))))) = some r:=H
          have A32:=Aside0.mk A320
          clear A320
          replace H:=Option.bind_eq_some_iff.mp H
          obtain ⟨t479,A330,H⟩:=H
          replace H : ((wigwagref07_Same.f kj23 t476 t479).bind fun t482 => ((span_Cut.f l0 a2_0 a2_1).bind fun t483 => ((wigwagref07_Cut.f kj23 l0 a2_0 a2_1).bind fun t486 => ((wigwagref07_Same.f kj23 t483 t486).bind fun t489 => ((span_Both.f kj23 l0 l1).bind fun t490 => ((wigwagref07_Both.f kj23 l0 l1).bind fun t493 => ((wigwagref07_Same.f kj23 t490 t493).bind fun t496 => ((span_Last.f l0 a4).bind fun t497 => ((wigwagref07_Last.f l0 a4).bind fun t500 => ((wigwagref07_Same.f kj23 t497 t500).bind fun t503 => (if t467 = true then (if t482 = true then (if t489 = true then (if t496 = true then (if t503 = true then ((span_Size.f kj23 l0).bind fun t504 => ((wigwagref07_Size.f kj23 l0).bind fun t505 => (some (t504 == t505)))) else (some false)) else (some false)) else (some false)) else (some false)) else (some false)))))))))))) = some r:=H
          have A33:=Aside0.mk A330
          clear A330
          replace H:=Option.bind_eq_some_iff.mp H
          obtain ⟨t482,A340,H⟩:=H
          replace H : ((span_Cut.f l0 a2_0 a2_1).bind fun t483 => ((wigwagref07_Cut.f kj23 l0 a2_0 a2_1).bind fun t486 => ((wigwagref07_Same.f kj23 t483 t486).bind fun t489 => ((span_Both.f kj23 l0 l1).bind fun t490 => ((wigwagref07_Both.f kj23 l0 l1).bind fun t493 => ((wigwagref07_Same.f kj23 t490 t493).bind fun t496 => ((span_Last.f l0 a4).bind fun t497 => ((wigwagref07_Last.f l0 a4).bind fun t500 => ((wigwagref07_Same.f kj23 t497 t500).bind fun t503 => (if t467 = true then (if t482 = true then (if t489 = true then (if t496 = true then (if t503 = true then ((span_Size.f kj23 l0).bind fun t504 => ((wigwagref07_Size.f kj23 l0).bind fun t505 => (some (t504 == t505)))) else (some false)) else (some false)) else (some false)) else (some false)) else (some false))))))))))) = some r:=H
          have A34:=Aside0.mk A340
          clear A340
          replace H:=Option.bind_eq_some_iff.mp H
          obtain ⟨t483,A350,H⟩:=H
          replace H : ((wigwagref07_Cut.f kj23 l0 a2_0 a2_1).bind fun t486 => ((wigwagref07_Same.f kj23 t483 t486).bind fun t489 => ((span_Both.f kj23 l0 l1).bind fun t490 => ((wigwagref07_Both.f kj23 l0 l1).bind fun t493 => ((wigwagref07_Same.f kj23 t490 t493).bind fun t496 => ((span_Last.f l0 a4).bind fun t497 => ((wigwagref07_Last.f l0 a4).bind fun t500 => ((wigwagref07_Same.f kj23 t497 t500).bind fun t503 => (if t467 = true then (if t482 = true then (if t489 = true then (if t496 = true then (if t503 = true then ((span_Size.f kj23 l0).bind fun t504 => ((wigwagref07_Size.f kj23 l0).bind fun t505 => (some (t504 == t505)))) else (some false)) else (some false)) else (some false)) else (some false)) else (some false)))))))))) = some r:=H
          have A35:=Aside0.mk A350
          clear A350
          replace H:=Option.bind_eq_some_iff.mp H
          obtain ⟨t486,A360,H⟩:=H
          replace H : ((wigwagref07_Same.f kj23 t483 t486).bind fun t489 => ((span_Both.f kj23 l0 l1).bind fun t490 => ((wigwagref07_Both.f kj23 l0 l1).bind fun t493 => ((wigwagref07_Same.f kj23 t490 t493).bind fun t496 => ((span_Last.f l0 a4).bind fun t497 => ((wigwagref07_Last.f l0 a4).bind fun t500 => ((wigwagref07_Same.f kj23 t497 t500).bind fun t503 => (if t467 = true then (if t482 = true then (if t489 = true then (if t496 = true then (if t503 = true then ((span_Size.f kj23 l0).bind fun t504 => ((wigwagref07_Size.f kj23 l0).bind fun t505 => (some (t504 == t505)))) else (some false)) else (some false)) else (some false)) else (some false)) else (some false))))))))) = some r:=H
          have A36:=Aside0.mk A360
          clear A360
          replace H:=Option.bind_eq_some_iff.mp H
          obtain ⟨t489,A370,H⟩:=H
          replace H : ((span_Both.f kj23 l0 l1).bind fun t490 => ((wigwagref07_Both.f kj23 l0 l1).bind fun t493 => ((wigwagref07_Same.f kj23 t490 t493).bind fun t496 => ((span_Last.f l0 a4).bind fun t497 => ((wigwagref07_Last.f l0 a4).bind fun t500 => ((wigwagref07_Same.f kj23 t497 t500).bind fun t503 => (if t467 = true then (if t482 = true then (if t489 = true then (if t496 = true then (if t503 = true then ((span_Size.f kj23 l0).bind fun t504 => ((wigwagref07_Size.f kj23 l0).bind fun t505 => (some (t504 == t505)))) else (some false)) else (some false)) else (some false)) else (some false)) else (some false)))))))) = some r:=H
          have A37:=Aside0.mk A370
          clear A370
          replace H:=Option.bind_eq_some_iff.mp H
          obtain ⟨t490,A380,H⟩:=H
          replace H : ((wigwagref07_Both.f kj23 l0 l1).bind fun t493 => ((wigwagref07_Same.f kj23 t490 t493).bind fun t496 => ((span_Last.f l0 a4).bind fun t497 => ((wigwagref07_Last.f l0 a4).bind fun t500 => ((wigwagref07_Same.f kj23 t497 t500).bind fun t503 => (if t467 = true then (if t482 = true then (if t489 = true then (if t496 = true then (if t503 = true then ((span_Size.f kj23 l0).bind fun t504 => ((wigwagref07_Size.f kj23 l0).bind fun t505 => (some (t504 == t505)))) else (some false)) else (some false)) else (some false)) else (some false)) else (some false))))))) = some r:=H
          have A38:=Aside0.mk A380
          clear A380
          replace H:=Option.bind_eq_some_iff.mp H
          obtain ⟨t493,A390,H⟩:=H
          replace H : ((wigwagref07_Same.f kj23 t490 t493).bind fun t496 => ((span_Last.f l0 a4).bind fun t497 => ((wigwagref07_Last.f l0 a4).bind fun t500 => ((wigwagref07_Same.f kj23 t497 t500).bind fun t503 => (if t467 = true then (if t482 = true then (if t489 = true then (if t496 = true then (if t503 = true then ((span_Size.f kj23 l0).bind fun t504 => ((wigwagref07_Size.f kj23 l0).bind fun t505 => (some (t504 == t505)))) else (some false)) else (some false)) else (some false)) else (some false)) else (some false)))))) = some r:=H
          have A39:=Aside0.mk A390
          clear A390
          replace H:=Option.bind_eq_some_iff.mp H
          obtain ⟨t496,A400,H⟩:=H
          replace H : ((span_Last.f l0 a4).bind fun t497 => ((wigwagref07_Last.f l0 a4).bind fun t500 => ((wigwagref07_Same.f kj23 t497 t500).bind fun t503 => (if t467 = true then (if t482 = true then (if t489 = true then (if t496 = true then (if t503 = true then ((span_Size.f kj23 l0).bind fun t504 => ((wigwagref07_Size.f kj23 l0).bind fun t505 => (some (t504 == t505)))) else (some false)) else (some false)) else (some false)) else (some false)) else (some false))))) = some r:=H
          have A40:=Aside0.mk A400
          clear A400
          replace H:=Option.bind_eq_some_iff.mp H
          obtain ⟨t497,A410,H⟩:=H
          replace H : ((wigwagref07_Last.f l0 a4).bind fun t500 => ((wigwagref07_Same.f kj23 t497 t500).bind fun t503 => (if t467 = true then (if t482 = true then (if t489 = true then (if t496 = true then (if t503 = true then ((span_Size.f kj23 l0).bind fun t504 => ((wigwagref07_Size.f kj23 l0).bind fun t505 => (some (t504 == t505)))) else (some false)) else (some false)) else (some false)) else (some false)) else (some false)))) = some r:=H
          have A41:=Aside0.mk A410
          clear A410
          replace H:=Option.bind_eq_some_iff.mp H
          obtain ⟨t500,A420,H⟩:=H
          replace H : ((wigwagref07_Same.f kj23 t497 t500).bind fun t503 => (if t467 = true then (if t482 = true then (if t489 = true then (if t496 = true then (if t503 = true then ((span_Size.f kj23 l0).bind fun t504 => ((wigwagref07_Size.f kj23 l0).bind fun t505 => (some (t504 == t505)))) else (some false)) else (some false)) else (some false)) else (some false)) else (some false))) = some r:=H
          have A42:=Aside0.mk A420
          clear A420
          replace H:=Option.bind_eq_some_iff.mp H
          obtain ⟨t503,A430,H⟩:=H
          replace H : (if t467 = true then (if t482 = true then (if t489 = true then (if t496 = true then (if t503 = true then ((span_Size.f kj23 l0).bind fun t504 => ((wigwagref07_Size.f kj23 l0).bind fun t505 => (some (t504 == t505)))) else (some false)) else (some false)) else (some false)) else (some false)) else (some false)) = some r:=H
          have A43:=Aside0.mk A430
          clear A430
          have HS44:=Aside0.mk H
          clear H
          try go_wp2
          have n0_:=Aside0.mk (blk_drew BK466.out)
          have n1_:=Aside0.mk (below_drew1 HB.out)
          clear BK466
          clear HB
          have BK466:=n0_
          have HB:=n1_
          clear n0_ n1_
          refine start_ (n:=8) (S:=fun w' => w'.cell? ⟨gb466,0,none⟩ = some (.int .u64 a2_0) ∧ w'.cell? ⟨gb466,1,none⟩ = some (.int .u64 a2_1)) (ds:=[]) #[false,false,false,false,false,false,false,false] (by kernel_rfl) rfl rfl ⟨(blk_cell BK466.out 0).trans rfl,(blk_cell BK466.out 1).trans rfl⟩ (fun hHeld => ?_);refine with_tabW wigwaglaw07_SpanTells.tab8 wigwaglaw07_SpanTells.bits8 (fun HT_ HW_ => ?_)
          generalize wc.drew = w45 at BK466 HB hHeld ⊢
          refine pure_ (i:=0) (N:=some 49) (v:=?_) (a':=?_) #[true,false,false,false,false,false,false,false] rfl rfl (any_of HT_.out (by kernel_rfl)) (fun _ _ _ h => h) (Or.inl ⟨by rfl,?_⟩) ?_ ?_
          rotate_left
          ·intro w'
           go_simp
           with_reducible rfl
          rotate_left
          ·simp only [Act.put,List.setIfInBounds_toArray,List.set_cons_zero,List.set_cons_succ,i64_w,i32_w]
           rfl
          refine pure_ (i:=3) (N:=some 52) (v:=?_) (a':=?_) #[true,false,false,true,false,false,false,false] rfl rfl (any_of HT_.out (by kernel_rfl)) (fun _ _ _ h => h) (Or.inl ⟨by rfl,?_⟩) ?_ ?_
          rotate_left
          ·intro w'
           go_simp
           with_reducible rfl
          rotate_left
          ·simp only [Act.put,List.setIfInBounds_toArray,List.set_cons_zero,List.set_cons_succ,i64_w,i32_w]
           rfl
          refine take_ (i:=1) (N:=some 50) (v:=?_) (a':=?_) #[true,true,false,true,false,false,false,false] rfl rfl (take_ofW HT_.out HW_.out (by kernel_rfl)) (fun _ _ _ h => h) (Or.inl ⟨by rfl,?_⟩) hHeld ?_ ?_
          rotate_left
          ·rintro w' ⟨s0,s1⟩
           go_simp
           with_reducible rfl
          rotate_left
          ·simp only [Act.put,List.setIfInBounds_toArray,List.set_cons_zero,List.set_cons_succ,i64_w,i32_w]
           rfl
          refine take_ (i:=4) (N:=some 53) (v:=?_) (a':=?_) #[true,true,false,true,true,false,false,false] rfl rfl (take_ofW HT_.out HW_.out (by kernel_rfl)) (fun _ _ _ h => h) (Or.inl ⟨by rfl,?_⟩) hHeld ?_ ?_
          rotate_left
          ·rintro w' ⟨s0,s1⟩
           go_simp
           with_reducible rfl
          rotate_left
          ·simp only [Act.put,List.setIfInBounds_toArray,List.set_cons_zero,List.set_cons_succ,i64_w,i32_w]
           rfl
          refine one_ (i:=2) (N:=some 51) #[true,true,true,true,true,false,false,false] rfl rfl (one_of HT_.out (by kernel_rfl)) (by decide) (fun K hK => ?_)
          refine goes_ Try.func17 (by kernel_rfl) rfl #[.slice A0 l0.length c0,.agg #[.int .u64 a2_0,.int .u64 a2_1]] (by rfl) rfl rfl (by (try simp only [List.map_toArray,List.map_cons,List.map_nil]);first | done | rfl | (simp only [List.length_drop,List.length_take];rfl)) ?_
          with_reducible refine (span_Add.calls kj23 _ _ l0 a2_0 a2_1 t476 _ ?side1 ?side2 A32.out).mono ?_
          (case side1 => repeat (first | exact (Kd.C_below HR0.out HB.out) | (with_reducible refine Kd.C_alloc ?_ _) | (with_reducible refine Kd.C_drewN ?_ _) | (with_reducible refine Kd.C_drew ?_)))
          (case side2 => exact HC0.out)
          rintro e w46 ⟨v477,rfl,ho0,hb⟩
          refine ⟨_,rfl,?_⟩
          have n0_:=Aside0.mk (Kd.R_lower (Kd.R_newB ho0 (g:=gb466) (o:=.cells #[.int .u64 a2_0,.int .u64 a2_1] 25 (0,0)) (by (with_reducible repeat (first | refine blk_drewN ?_ _ | refine blk_drew ?_ | refine blk_alloc ?_ _));exact BK466.out)) (below_size (by repeat (first | (with_reducible first | exact HB.out | apply below_alloc | apply pw_below_drewN | apply below_drew1 | refine below_set ?_ GE466.out) | exact HB.out))))
          have n1_:=Aside0.mk (blk_below (g:=gb466) (o:=.cells #[.int .u64 a2_0,.int .u64 a2_1] 25 (0,0)) (by (with_reducible repeat (first | refine blk_drewN ?_ _ | refine blk_drew ?_ | refine blk_alloc ?_ _));exact BK466.out) hb)
          have n2_:=Aside0.mk (below_step (by repeat (first | (with_reducible first | exact HB.out | apply below_alloc | apply pw_below_drewN | apply below_drew1 | refine below_set ?_ GE466.out) | exact HB.out)) hb)
          clear BK466
          clear HB
          have HO478:=n0_
          have BK466:=n1_
          have HB:=n2_
          clear n0_ n1_ n2_
          (try clear hb)
          (try clear hb2)
          (try clear hk)
          (try clear hi)
          (try clear ho0)
          refine hK.out _ _ ⟨(blk_cell BK466.out 0).trans rfl,(blk_cell BK466.out 1).trans rfl⟩ (fun hHeld => ?_)
          clear hK K
          refine norm_ (a':=?_) ?_ ?_
          rotate_left
          ·show Act.put _ (some 51) _ = _
           simp only [Act.put,List.setIfInBounds_toArray,List.set_cons_zero,List.set_cons_succ,i64_w,i32_w]
           rfl
          refine one_ (i:=5) (N:=some 54) #[true,true,true,true,true,true,false,false] rfl rfl (one_of HT_.out (by kernel_rfl)) (by decide) (fun K hK => ?_)
          refine goes_ Try.func18 (by kernel_rfl) rfl #[.slice A0 l0.length c0,.agg #[.int .u64 a2_0,.int .u64 a2_1]] (by rfl) rfl rfl (by (try simp only [List.map_toArray,List.map_cons,List.map_nil]);first | done | rfl | (simp only [List.length_drop,List.length_take];rfl)) ?_
          with_reducible refine (wigwagref07_Add.calls kj23 _ _ l0 a2_0 a2_1 t479 _ ?side1 ?side2 A33.out).mono ?_
          (case side1 => repeat (first | exact (Kd.C_below HR0.out HB.out) | (with_reducible refine Kd.C_alloc ?_ _) | (with_reducible refine Kd.C_drewN ?_ _) | (with_reducible refine Kd.C_drew ?_)))
          (case side2 => exact HC0.out)
          rintro e w47 ⟨v480,rfl,ho0,hb⟩
          refine ⟨_,rfl,?_⟩
          have n0_:=Aside0.mk (Kd.R_elder' (by (with_reducible repeat (first | apply Kd.R_alloc | apply Kd.R_drewN | apply Kd.R_drew));exact HO478.out) (Kd.R_base ho0) hb)
          have n1_:=Aside0.mk (Kd.R_lower (Kd.R_newB (Kd.R_new' ho0 (Kd.R_lt (by (with_reducible repeat (first | apply Kd.R_alloc | apply Kd.R_drewN | apply Kd.R_drew));exact HO478.out))) (g:=gb466) (o:=.cells #[.int .u64 a2_0,.int .u64 a2_1] 25 (0,0)) (by (with_reducible repeat (first | refine blk_drewN ?_ _ | refine blk_drew ?_ | refine blk_alloc ?_ _));exact BK466.out)) (below_size (by repeat (first | (with_reducible first | exact HB.out | apply below_alloc | apply pw_below_drewN | apply below_drew1 | refine below_set ?_ GE466.out) | exact HB.out))))
          have n2_:=Aside0.mk (blk_below (g:=gb466) (o:=.cells #[.int .u64 a2_0,.int .u64 a2_1] 25 (0,0)) (by (with_reducible repeat (first | refine blk_drewN ?_ _ | refine blk_drew ?_ | refine blk_alloc ?_ _));exact BK466.out) hb)
          have n3_:=Aside0.mk (below_step (by repeat (first | (with_reducible first | exact HB.out | apply below_alloc | apply pw_below_drewN | apply below_drew1 | refine below_set ?_ GE466.out) | exact HB.out)) hb)
          clear HO478
          clear BK466
          clear HB
          have HO478:=n0_
          have HO481:=n1_
          have BK466:=n2_
          have HB:=n3_
          clear n0_ n1_ n2_ n3_
          (try clear hb)
          (try clear hb2)
          (try clear hk)
          (try clear hi)
          (try clear ho0)
          obtain ⟨Ao48,co48,eo48⟩:=Kd.R_slice HO478.out
          (first | subst eo48 | (injection eo48 with f1_ f2_ f3_;have f4_:=f1_.symm;have f5_:=f3_.symm;clear f1_ f2_ f3_;subst f4_;subst f5_))
          obtain ⟨Ao49,co49,eo49⟩:=Kd.R_slice HO481.out
          (first | subst eo49 | (injection eo49 with f1_ f2_ f3_;have f4_:=f1_.symm;have f5_:=f3_.symm;clear f1_ f2_ f3_;subst f4_;subst f5_))
          refine hK.out _ _ ⟨(blk_cell BK466.out 0).trans rfl,(blk_cell BK466.out 1).trans rfl⟩ (fun hHeld => ?_)
          clear hK K
          refine norm_ (a':=?_) ?_ ?_
          rotate_left
          ·show Act.put _ (some 54) _ = _
           simp only [Act.put,List.setIfInBounds_toArray,List.set_cons_zero,List.set_cons_succ,i64_w,i32_w]
           rfl
          refine one_ (i:=6) (N:=some 55) #[true,true,true,true,true,true,true,false] rfl rfl (one_of HT_.out (by kernel_rfl)) (by decide) (fun K hK => ?_)
          refine goes_ Try.func16 (by kernel_rfl) rfl #[.slice Ao48 t476.length co48,.slice Ao49 t479.length co49] (by rfl) rfl rfl (by (try simp only [List.map_toArray,List.map_cons,List.map_nil]);first | done | rfl | (simp only [List.length_drop,List.length_take];rfl)) ?_
          with_reducible refine (wigwagref07_Same.calls kj23 _ _ t476 _ _ t479 t482 _ ?side1 ?side2 ?side3 ?side4 A34.out).mono ?_
          (case side1 => repeat (first | exact (Kd.R_reads' HO478.out).2.2 | (with_reducible refine Kd.C_alloc ?_ _) | (with_reducible refine Kd.C_drewN ?_ _) | (with_reducible refine Kd.C_drew ?_)))
          (case side2 => exact (Kd.R_reads' HO478.out).2.1)
          (case side3 => repeat (first | exact (Kd.R_reads' HO481.out).2.2 | (with_reducible refine Kd.C_alloc ?_ _) | (with_reducible refine Kd.C_drewN ?_ _) | (with_reducible refine Kd.C_drew ?_)))
          (case side4 => exact (Kd.R_reads' HO481.out).2.1)
          rintro e w' ⟨rfl,⟨nd,rfl⟩⟩
          refine ⟨_,rfl,?_⟩
          refine hK.out _ _ ⟨(blk_cell BK466.out 0).trans rfl,(blk_cell BK466.out 1).trans rfl⟩ (fun hHeld => ?_)
          clear hK K
          refine norm_ (a':=?_) ?_ ?_
          rotate_left
          ·show Act.put _ (some 55) _ = _
           simp only [Act.put,List.setIfInBounds_toArray,List.set_cons_zero,List.set_cons_succ,i64_w,i32_w]
           rfl
          refine pure_ (i:=7) (N:=some 12) (v:=?_) (a':=?_) #[true,true,true,true,true,true,true,true] rfl rfl (any_of HT_.out (by kernel_rfl)) (fun _ _ _ h => h) (Or.inl ⟨by rfl,?_⟩) ?_ ?_
          rotate_left
          ·intro w'
           go_simp
           with_reducible rfl
          rotate_left
          ·simp only [Act.put,List.setIfInBounds_toArray,List.set_cons_zero,List.set_cons_succ,i64_w,i32_w]
           rfl
          refine done_ (done_of HT_.out (by kernel_rfl)) ?_
          try go_wp2
          (try (rw [drewN_self w47];generalize hq_ : World.drewN w47 _ = w47;have n0_ : Aside0 (Kd.R k25 25 w47 w.heap.size (fun k_ => some k_ ≠ (.slice Ao49 t479.length co49 : Value).ownBlock ∧ k_ ≠ gb466) (.slice Ao48 t476.length co48) t476):=⟨by rw [← hq_];exact (by (with_reducible repeat (first | apply Kd.R_alloc | apply Kd.R_drewN | apply Kd.R_drew));exact Kd.R_mono HO478.out (fun _ hk => ⟨hk.2,hk.1.2⟩))⟩;have n1_ : Aside0 (Kd.R k25 25 w47 w.heap.size (fun k_ => some k_ ≠ (.slice Ao48 t476.length co48 : Value).ownBlock ∧ k_ ≠ gb466) (.slice Ao49 t479.length co49) t479):=⟨by rw [← hq_];exact (by (with_reducible repeat (first | apply Kd.R_alloc | apply Kd.R_drewN | apply Kd.R_drew));exact Kd.R_mono HO481.out (fun _ hk => ⟨hk.1.2,hk.2⟩))⟩;have n2_ : Aside0 (w47.heap[gb466]? = some (.cells #[.int .u64 a2_0,.int .u64 a2_1] 25 (0,0))):=⟨by rw [← hq_];exact (by (with_reducible repeat (first | refine blk_drewN ?_ _ | refine blk_drew ?_ | refine blk_alloc ?_ _));exact BK466.out)⟩;have n3_ : Aside0 (Below w.heap.size w w47):=⟨by rw [← hq_];exact (by repeat (first | (with_reducible first | exact HB.out | apply below_alloc | apply pw_below_drewN | apply below_drew1 | refine below_set ?_ GE466.out) | exact HB.out))⟩;clear HO478 HO481 BK466 HB hq_;have HO478:=n0_;have HO481:=n1_;have BK466:=n2_;have HB:=n3_;clear n0_ n1_ n2_ n3_))
          have n0_:=Aside0.mk (Kd.R_drew HO478.out)
          have n1_:=Aside0.mk (Kd.R_drew HO481.out)
          have n2_:=Aside0.mk (blk_drew BK466.out)
          have n3_:=Aside0.mk (below_drew1 HB.out)
          clear HO478
          clear HO481
          clear BK466
          clear HB
          have HO478:=n0_
          have HO481:=n1_
          have BK466:=n2_
          have HB:=n3_
          clear n0_ n1_ n2_ n3_
          refine start_ (n:=8) (S:=fun w' => w'.cell? ⟨gb466,0,none⟩ = some (.int .u64 a2_0) ∧ w'.cell? ⟨gb466,1,none⟩ = some (.int .u64 a2_1)) (ds:=[]) #[false,false,false,false,false,false,false,false] (by kernel_rfl) rfl rfl ⟨(blk_cell BK466.out 0).trans rfl,(blk_cell BK466.out 1).trans rfl⟩ (fun hHeld => ?_);refine with_tabW wigwaglaw07_SpanTells.tab9 wigwaglaw07_SpanTells.bits9 (fun HT_ HW_ => ?_)
          generalize w47.drew = w50 at HO478 HO481 BK466 HB hHeld ⊢
          refine pure_ (i:=0) (N:=some 56) (v:=?_) (a':=?_) #[true,false,false,false,false,false,false,false] rfl rfl (any_of HT_.out (by kernel_rfl)) (fun _ _ _ h => h) (Or.inl ⟨by rfl,?_⟩) ?_ ?_
          rotate_left
          ·intro w'
           go_simp
           with_reducible rfl
          rotate_left
          ·simp only [Act.put,List.setIfInBounds_toArray,List.set_cons_zero,List.set_cons_succ,i64_w,i32_w]
           rfl
          refine pure_ (i:=3) (N:=some 59) (v:=?_) (a':=?_) #[true,false,false,true,false,false,false,false] rfl rfl (any_of HT_.out (by kernel_rfl)) (fun _ _ _ h => h) (Or.inl ⟨by rfl,?_⟩) ?_ ?_
          rotate_left
          ·intro w'
           go_simp
           with_reducible rfl
          rotate_left
          ·simp only [Act.put,List.setIfInBounds_toArray,List.set_cons_zero,List.set_cons_succ,i64_w,i32_w]
           rfl
          refine take_ (i:=1) (N:=some 57) (v:=?_) (a':=?_) #[true,true,false,true,false,false,false,false] rfl rfl (take_ofW HT_.out HW_.out (by kernel_rfl)) (fun _ _ _ h => h) (Or.inl ⟨by rfl,?_⟩) hHeld ?_ ?_
          rotate_left
          ·rintro w' ⟨s0,s1⟩
           go_simp
           with_reducible rfl
          rotate_left
          ·simp only [Act.put,List.setIfInBounds_toArray,List.set_cons_zero,List.set_cons_succ,i64_w,i32_w]
           rfl
          refine take_ (i:=4) (N:=some 60) (v:=?_) (a':=?_) #[true,true,false,true,true,false,false,false] rfl rfl (take_ofW HT_.out HW_.out (by kernel_rfl)) (fun _ _ _ h => h) (Or.inl ⟨by rfl,?_⟩) hHeld ?_ ?_
          rotate_left
          ·rintro w' ⟨s0,s1⟩
           go_simp
           with_reducible rfl
          rotate_left
          ·simp only [Act.put,List.setIfInBounds_toArray,List.set_cons_zero,List.set_cons_succ,i64_w,i32_w]
           rfl
          refine one_ (i:=2) (N:=some 58) #[true,true,true,true,true,false,false,false] rfl rfl (one_of HT_.out (by kernel_rfl)) (by decide) (fun K hK => ?_)
          refine goes_ Try.func19 (by kernel_rfl) rfl #[.slice A0 l0.length c0,.agg #[.int .u64 a2_0,.int .u64 a2_1]] (by rfl) rfl rfl (by (try simp only [List.map_toArray,List.map_cons,List.map_nil]);first | done | rfl | (simp only [List.length_drop,List.length_take];rfl)) ?_
          with_reducible refine (span_Cut.calls _ _ l0 a2_0 a2_1 t483 _ ?side1 ?side2 A35.out).mono ?_
          (case side1 => repeat (first | exact (Kd.C_below HR0.out HB.out) | (with_reducible refine Kd.C_alloc ?_ _) | (with_reducible refine Kd.C_drewN ?_ _) | (with_reducible refine Kd.C_drew ?_)))
          (case side2 => exact HC0.out)
          rintro e w51 ⟨v484,rfl,ho0,hb⟩
          refine ⟨_,rfl,?_⟩
          have n0_:=Aside0.mk (Kd.R_elder' (by (with_reducible repeat (first | apply Kd.R_alloc | apply Kd.R_drewN | apply Kd.R_drew));exact HO478.out) (Kd.R_base ho0) hb)
          have n1_:=Aside0.mk (Kd.R_elder' (by (with_reducible repeat (first | apply Kd.R_alloc | apply Kd.R_drewN | apply Kd.R_drew));exact HO481.out) (Kd.R_base ho0) hb)
          have n2_:=Aside0.mk (Kd.R_lower (Kd.R_newB (Kd.R_new' (Kd.R_new' ho0 (Kd.R_lt (by (with_reducible repeat (first | apply Kd.R_alloc | apply Kd.R_drewN | apply Kd.R_drew));exact HO478.out))) (Kd.R_lt (by (with_reducible repeat (first | apply Kd.R_alloc | apply Kd.R_drewN | apply Kd.R_drew));exact HO481.out))) (g:=gb466) (o:=.cells #[.int .u64 a2_0,.int .u64 a2_1] 25 (0,0)) (by (with_reducible repeat (first | refine blk_drewN ?_ _ | refine blk_drew ?_ | refine blk_alloc ?_ _));exact BK466.out)) (below_size (by repeat (first | (with_reducible first | exact HB.out | apply below_alloc | apply pw_below_drewN | apply below_drew1 | refine below_set ?_ GE466.out) | exact HB.out))))
          have n3_:=Aside0.mk (blk_below (g:=gb466) (o:=.cells #[.int .u64 a2_0,.int .u64 a2_1] 25 (0,0)) (by (with_reducible repeat (first | refine blk_drewN ?_ _ | refine blk_drew ?_ | refine blk_alloc ?_ _));exact BK466.out) hb)
          have n4_:=Aside0.mk (below_step (by repeat (first | (with_reducible first | exact HB.out | apply below_alloc | apply pw_below_drewN | apply below_drew1 | refine below_set ?_ GE466.out) | exact HB.out)) hb)
          clear HO478
          clear HO481
          clear BK466
          clear HB
          have HO478:=n0_
          have HO481:=n1_
          have HO485:=n2_
          have BK466:=n3_
          have HB:=n4_
          clear n0_ n1_ n2_ n3_ n4_
          (try clear hb)
          (try clear hb2)
          (try clear hk)
          (try clear hi)
          (try clear ho0)
          refine hK.out _ _ ⟨(blk_cell BK466.out 0).trans rfl,(blk_cell BK466.out 1).trans rfl⟩ (fun hHeld => ?_)
          clear hK K
          refine norm_ (a':=?_) ?_ ?_
          rotate_left
          ·show Act.put _ (some 58) _ = _
           simp only [Act.put,List.setIfInBounds_toArray,List.set_cons_zero,List.set_cons_succ,i64_w,i32_w]
           rfl
          refine one_ (i:=5) (N:=some 61) #[true,true,true,true,true,true,false,false] rfl rfl (one_of HT_.out (by kernel_rfl)) (by decide) (fun K hK => ?_)
          refine goes_ Try.func20 (by kernel_rfl) rfl #[.slice A0 l0.length c0,.agg #[.int .u64 a2_0,.int .u64 a2_1]] (by rfl) rfl rfl (by (try simp only [List.map_toArray,List.map_cons,List.map_nil]);first | done | rfl | (simp only [List.length_drop,List.length_take];rfl)) ?_
          with_reducible refine (wigwagref07_Cut.calls kj23 _ _ l0 a2_0 a2_1 t486 _ ?side1 ?side2 A36.out).mono ?_
          (case side1 => repeat (first | exact (Kd.C_below HR0.out HB.out) | (with_reducible refine Kd.C_alloc ?_ _) | (with_reducible refine Kd.C_drewN ?_ _) | (with_reducible refine Kd.C_drew ?_)))
          (case side2 => exact HC0.out)
          rintro e w52 ⟨v487,rfl,ho0,hb⟩
          refine ⟨_,rfl,?_⟩
          have n0_:=Aside0.mk (Kd.R_elder' (by (with_reducible repeat (first | apply Kd.R_alloc | apply Kd.R_drewN | apply Kd.R_drew));exact HO478.out) (Kd.R_base ho0) hb)
          have n1_:=Aside0.mk (Kd.R_elder' (by (with_reducible repeat (first | apply Kd.R_alloc | apply Kd.R_drewN | apply Kd.R_drew));exact HO481.out) (Kd.R_base ho0) hb)
          have n2_:=Aside0.mk (Kd.R_elder' (by (with_reducible repeat (first | apply Kd.R_alloc | apply Kd.R_drewN | apply Kd.R_drew));exact HO485.out) (Kd.R_base ho0) hb)
          have n3_:=Aside0.mk (Kd.R_lower (Kd.R_newB (Kd.R_new' (Kd.R_new' (Kd.R_new' ho0 (Kd.R_lt (by (with_reducible repeat (first | apply Kd.R_alloc | apply Kd.R_drewN | apply Kd.R_drew));exact HO478.out))) (Kd.R_lt (by (with_reducible repeat (first | apply Kd.R_alloc | apply Kd.R_drewN | apply Kd.R_drew));exact HO481.out))) (Kd.R_lt (by (with_reducible repeat (first | apply Kd.R_alloc | apply Kd.R_drewN | apply Kd.R_drew));exact HO485.out))) (g:=gb466) (o:=.cells #[.int .u64 a2_0,.int .u64 a2_1] 25 (0,0)) (by (with_reducible repeat (first | refine blk_drewN ?_ _ | refine blk_drew ?_ | refine blk_alloc ?_ _));exact BK466.out)) (below_size (by repeat (first | (with_reducible first | exact HB.out | apply below_alloc | apply pw_below_drewN | apply below_drew1 | refine below_set ?_ GE466.out) | exact HB.out))))
          have n4_:=Aside0.mk (blk_below (g:=gb466) (o:=.cells #[.int .u64 a2_0,.int .u64 a2_1] 25 (0,0)) (by (with_reducible repeat (first | refine blk_drewN ?_ _ | refine blk_drew ?_ | refine blk_alloc ?_ _));exact BK466.out) hb)
          have n5_:=Aside0.mk (below_step (by repeat (first | (with_reducible first | exact HB.out | apply below_alloc | apply pw_below_drewN | apply below_drew1 | refine below_set ?_ GE466.out) | exact HB.out)) hb)
          clear HO478
          clear HO481
          clear HO485
          clear BK466
          clear HB
          have HO478:=n0_
          have HO481:=n1_
          have HO485:=n2_
          have HO488:=n3_
          have BK466:=n4_
          have HB:=n5_
          clear n0_ n1_ n2_ n3_ n4_ n5_
          (try clear hb)
          (try clear hb2)
          (try clear hk)
          (try clear hi)
          (try clear ho0)
          obtain ⟨Ao53,co53,eo53⟩:=Kd.R_slice HO485.out
          (first | subst eo53 | (injection eo53 with f1_ f2_ f3_;have f4_:=f1_.symm;have f5_:=f3_.symm;clear f1_ f2_ f3_;subst f4_;subst f5_))
          obtain ⟨Ao54,co54,eo54⟩:=Kd.R_slice HO488.out
          (first | subst eo54 | (injection eo54 with f1_ f2_ f3_;have f4_:=f1_.symm;have f5_:=f3_.symm;clear f1_ f2_ f3_;subst f4_;subst f5_))
          refine hK.out _ _ ⟨(blk_cell BK466.out 0).trans rfl,(blk_cell BK466.out 1).trans rfl⟩ (fun hHeld => ?_)
          clear hK K
          refine norm_ (a':=?_) ?_ ?_
          rotate_left
          ·show Act.put _ (some 61) _ = _
           simp only [Act.put,List.setIfInBounds_toArray,List.set_cons_zero,List.set_cons_succ,i64_w,i32_w]
           rfl
          refine one_ (i:=6) (N:=some 62) #[true,true,true,true,true,true,true,false] rfl rfl (one_of HT_.out (by kernel_rfl)) (by decide) (fun K hK => ?_)
          refine goes_ Try.func16 (by kernel_rfl) rfl #[.slice Ao53 t483.length co53,.slice Ao54 t486.length co54] (by rfl) rfl rfl (by (try simp only [List.map_toArray,List.map_cons,List.map_nil]);first | done | rfl | (simp only [List.length_drop,List.length_take];rfl)) ?_
          with_reducible refine (wigwagref07_Same.calls kj23 _ _ t483 _ _ t486 t489 _ ?side1 ?side2 ?side3 ?side4 A37.out).mono ?_
          (case side1 => repeat (first | exact (Kd.R_reads' HO485.out).2.2 | (with_reducible refine Kd.C_alloc ?_ _) | (with_reducible refine Kd.C_drewN ?_ _) | (with_reducible refine Kd.C_drew ?_)))
          (case side2 => exact (Kd.R_reads' HO485.out).2.1)
          (case side3 => repeat (first | exact (Kd.R_reads' HO488.out).2.2 | (with_reducible refine Kd.C_alloc ?_ _) | (with_reducible refine Kd.C_drewN ?_ _) | (with_reducible refine Kd.C_drew ?_)))
          (case side4 => exact (Kd.R_reads' HO488.out).2.1)
          rintro e w' ⟨rfl,⟨nd,rfl⟩⟩
          refine ⟨_,rfl,?_⟩
          refine hK.out _ _ ⟨(blk_cell BK466.out 0).trans rfl,(blk_cell BK466.out 1).trans rfl⟩ (fun hHeld => ?_)
          clear hK K
          refine norm_ (a':=?_) ?_ ?_
          rotate_left
          ·show Act.put _ (some 62) _ = _
           simp only [Act.put,List.setIfInBounds_toArray,List.set_cons_zero,List.set_cons_succ,i64_w,i32_w]
           rfl
          refine pure_ (i:=7) (N:=some 13) (v:=?_) (a':=?_) #[true,true,true,true,true,true,true,true] rfl rfl (any_of HT_.out (by kernel_rfl)) (fun _ _ _ h => h) (Or.inl ⟨by rfl,?_⟩) ?_ ?_
          rotate_left
          ·intro w'
           go_simp
           with_reducible rfl
          rotate_left
          ·simp only [Act.put,List.setIfInBounds_toArray,List.set_cons_zero,List.set_cons_succ,i64_w,i32_w]
           rfl
          refine done_ (done_of HT_.out (by kernel_rfl)) ?_
          go_upto_region 12 with (first | ((with_reducible refine gate_callee (f:=21) rfl ?_);refine goesL_ (some 65) rfl rfl Try.func21 (by kernel_rfl) rfl #[.slice A0 l0.length c0,.slice A1 l1.length c1] rfl (by (try simp only [List.map_toArray,List.map_cons,List.map_nil]);first | done | rfl | (simp only [List.length_drop,List.length_take];rfl)) ?_;(with_reducible refine (span_Both.calls kj23 (fun k_ => k_ < w.heap.size) _ _ l0 (fun k_ => k_ < w.heap.size) _ _ l1 t490 _ ?side1 ?side2 A38.out).mono ?_);(case side1 => exact Kd.V_mk HC0.out (Kd.F_below (Kd.C_F k25_heap HR0.out) (by repeat (first | (with_reducible first | exact HB.out | apply below_alloc | apply pw_below_drewN | apply below_drew1 | refine below_set ?_ GE466.out) | exact HB.out))));(case side2 => exact Kd.V_mk HC1.out (Kd.F_below (Kd.C_F k25_heap HR1.out) (by repeat (first | (with_reducible first | exact HB.out | apply below_alloc | apply pw_below_drewN | apply below_drew1 | refine below_set ?_ GE466.out) | exact HB.out))));rintro e w55 ⟨v491,rfl,ho0,hb⟩;refine ⟨_,rfl,?_⟩;have n0_:=Aside0.mk (Kd.R_elder' (by (with_reducible repeat (first | apply Kd.R_alloc | apply Kd.R_drewN | apply Kd.R_drew));exact HO478.out) (Kd.R_base ho0) hb);have n1_:=Aside0.mk (Kd.R_elder' (by (with_reducible repeat (first | apply Kd.R_alloc | apply Kd.R_drewN | apply Kd.R_drew));exact HO481.out) (Kd.R_base ho0) hb);have n2_:=Aside0.mk (Kd.R_elder' (by (with_reducible repeat (first | apply Kd.R_alloc | apply Kd.R_drewN | apply Kd.R_drew));exact HO485.out) (Kd.R_base ho0) hb);have n3_:=Aside0.mk (Kd.R_elder' (by (with_reducible repeat (first | apply Kd.R_alloc | apply Kd.R_drewN | apply Kd.R_drew));exact HO488.out) (Kd.R_base ho0) hb);have n4_:=Aside0.mk (Kd.R_lower (Kd.R_newB (Kd.R_new' (Kd.R_new' (Kd.R_new' (Kd.R_new' (Kd.R_mono (ok':=fun k_ => True) ho0 (fun _ hk_ => trivial)) (Kd.R_lt (by (with_reducible repeat (first | apply Kd.R_alloc | apply Kd.R_drewN | apply Kd.R_drew));exact HO478.out))) (Kd.R_lt (by (with_reducible repeat (first | apply Kd.R_alloc | apply Kd.R_drewN | apply Kd.R_drew));exact HO481.out))) (Kd.R_lt (by (with_reducible repeat (first | apply Kd.R_alloc | apply Kd.R_drewN | apply Kd.R_drew));exact HO485.out))) (Kd.R_lt (by (with_reducible repeat (first | apply Kd.R_alloc | apply Kd.R_drewN | apply Kd.R_drew));exact HO488.out))) (g:=gb466) (o:=.cells #[.int .u64 a2_0,.int .u64 a2_1] 25 (0,0)) (by (with_reducible repeat (first | refine blk_drewN ?_ _ | refine blk_drew ?_ | refine blk_alloc ?_ _));exact BK466.out)) (below_size (by repeat (first | (with_reducible first | exact HB.out | apply below_alloc | apply pw_below_drewN | apply below_drew1 | refine below_set ?_ GE466.out) | exact HB.out))));have n5_:=Aside0.mk (blk_below (g:=gb466) (o:=.cells #[.int .u64 a2_0,.int .u64 a2_1] 25 (0,0)) (by (with_reducible repeat (first | refine blk_drewN ?_ _ | refine blk_drew ?_ | refine blk_alloc ?_ _));exact BK466.out) hb);have n6_:=Aside0.mk (below_step (by repeat (first | (with_reducible first | exact HB.out | apply below_alloc | apply pw_below_drewN | apply below_drew1 | refine below_set ?_ GE466.out) | exact HB.out)) hb);clear HO478;clear HO481;clear HO485;clear HO488;clear BK466;clear HB;have HO478:=n0_;have HO481:=n1_;have HO485:=n2_;have HO488:=n3_;have HO492:=n4_;have BK466:=n5_;have HB:=n6_;clear n0_ n1_ n2_ n3_ n4_ n5_ n6_;(try clear hb);(try clear hb2);(try clear hk);(try clear hi);(try clear ho0)) | ((with_reducible refine gate_callee (f:=22) rfl ?_);refine goesL_ (some 68) rfl rfl Try.func22 (by kernel_rfl) rfl #[.slice A0 l0.length c0,.slice A1 l1.length c1] rfl (by (try simp only [List.map_toArray,List.map_cons,List.map_nil]);first | done | rfl | (simp only [List.length_drop,List.length_take];rfl)) ?_;(with_reducible refine (wigwagref07_Both.calls kj23 _ _ l0 _ _ l1 t493 _ ?side1 ?side2 ?side3 ?side4 A39.out).mono ?_);(case side1 => repeat (first | exact (Kd.C_below HR0.out HB.out) | (with_reducible refine Kd.C_alloc ?_ _) | (with_reducible refine Kd.C_drewN ?_ _) | (with_reducible refine Kd.C_drew ?_)));(case side2 => exact HC0.out);(case side3 => repeat (first | exact (Kd.C_below HR1.out HB.out) | (with_reducible refine Kd.C_alloc ?_ _) | (with_reducible refine Kd.C_drewN ?_ _) | (with_reducible refine Kd.C_drew ?_)));(case side4 => exact HC1.out);rintro e w56 ⟨v494,rfl,ho0,hb⟩;refine ⟨_,rfl,?_⟩;have n0_:=Aside0.mk (Kd.R_elder' (by (with_reducible repeat (first | apply Kd.R_alloc | apply Kd.R_drewN | apply Kd.R_drew));exact HO478.out) (Kd.R_base ho0) hb);have n1_:=Aside0.mk (Kd.R_elder' (by (with_reducible repeat (first | apply Kd.R_alloc | apply Kd.R_drewN | apply Kd.R_drew));exact HO481.out) (Kd.R_base ho0) hb);have n2_:=Aside0.mk (Kd.R_elder' (by (with_reducible repeat (first | apply Kd.R_alloc | apply Kd.R_drewN | apply Kd.R_drew));exact HO485.out) (Kd.R_base ho0) hb);have n3_:=Aside0.mk (Kd.R_elder' (by (with_reducible repeat (first | apply Kd.R_alloc | apply Kd.R_drewN | apply Kd.R_drew));exact HO488.out) (Kd.R_base ho0) hb);have n4_:=Aside0.mk (Kd.R_elder' (by (with_reducible repeat (first | apply Kd.R_alloc | apply Kd.R_drewN | apply Kd.R_drew));exact HO492.out) (Kd.R_base ho0) hb);have n5_:=Aside0.mk (Kd.R_lower (Kd.R_newB (Kd.R_new' (Kd.R_new' (Kd.R_new' (Kd.R_new' (Kd.R_new' ho0 (Kd.R_lt (by (with_reducible repeat (first | apply Kd.R_alloc | apply Kd.R_drewN | apply Kd.R_drew));exact HO478.out))) (Kd.R_lt (by (with_reducible repeat (first | apply Kd.R_alloc | apply Kd.R_drewN | apply Kd.R_drew));exact HO481.out))) (Kd.R_lt (by (with_reducible repeat (first | apply Kd.R_alloc | apply Kd.R_drewN | apply Kd.R_drew));exact HO485.out))) (Kd.R_lt (by (with_reducible repeat (first | apply Kd.R_alloc | apply Kd.R_drewN | apply Kd.R_drew));exact HO488.out))) (Kd.R_lt (by (with_reducible repeat (first | apply Kd.R_alloc | apply Kd.R_drewN | apply Kd.R_drew));exact HO492.out))) (g:=gb466) (o:=.cells #[.int .u64 a2_0,.int .u64 a2_1] 25 (0,0)) (by (with_reducible repeat (first | refine blk_drewN ?_ _ | refine blk_drew ?_ | refine blk_alloc ?_ _));exact BK466.out)) (below_size (by repeat (first | (with_reducible first | exact HB.out | apply below_alloc | apply pw_below_drewN | apply below_drew1 | refine below_set ?_ GE466.out) | exact HB.out))));have n6_:=Aside0.mk (blk_below (g:=gb466) (o:=.cells #[.int .u64 a2_0,.int .u64 a2_1] 25 (0,0)) (by (with_reducible repeat (first | refine blk_drewN ?_ _ | refine blk_drew ?_ | refine blk_alloc ?_ _));exact BK466.out) hb);have n7_:=Aside0.mk (below_step (by repeat (first | (with_reducible first | exact HB.out | apply below_alloc | apply pw_below_drewN | apply below_drew1 | refine below_set ?_ GE466.out) | exact HB.out)) hb);clear HO478;clear HO481;clear HO485;clear HO488;clear HO492;clear BK466;clear HB;have HO478:=n0_;have HO481:=n1_;have HO485:=n2_;have HO488:=n3_;have HO492:=n4_;have HO495:=n5_;have BK466:=n6_;have HB:=n7_;clear n0_ n1_ n2_ n3_ n4_ n5_ n6_ n7_;(try clear hb);(try clear hb2);(try clear hk);(try clear hi);(try clear ho0);obtain ⟨Ao57,co57,eo57⟩:=Kd.R_slice HO492.out;subst eo57;obtain ⟨Ao58,co58,eo58⟩:=Kd.R_slice HO495.out;subst eo58) | ((with_reducible refine gate_callee (f:=16) rfl ?_);refine goesL_ (some 69) rfl rfl Try.func16 (by kernel_rfl) rfl #[.slice Ao57 t490.length co57,.slice Ao58 t493.length co58] rfl (by (try simp only [List.map_toArray,List.map_cons,List.map_nil]);first | done | rfl | (simp only [List.length_drop,List.length_take];rfl)) ?_;(with_reducible refine (wigwagref07_Same.calls kj23 _ _ t490 _ _ t493 t496 _ ?side1 ?side2 ?side3 ?side4 A40.out).mono ?_);(case side1 => repeat (first | exact (Kd.R_reads' HO492.out).2.2 | (with_reducible refine Kd.C_alloc ?_ _) | (with_reducible refine Kd.C_drewN ?_ _) | (with_reducible refine Kd.C_drew ?_)));(case side2 => exact (Kd.R_reads' HO492.out).2.1);(case side3 => repeat (first | exact (Kd.R_reads' HO495.out).2.2 | (with_reducible refine Kd.C_alloc ?_ _) | (with_reducible refine Kd.C_drewN ?_ _) | (with_reducible refine Kd.C_drew ?_)));(case side4 => exact (Kd.R_reads' HO495.out).2.1);rintro e w' ⟨rfl,⟨nd,rfl⟩⟩;refine ⟨_,rfl,?_⟩) | ((with_reducible refine gate_callee (f:=23) rfl ?_);refine goesL_ (some 72) rfl rfl Try.func23 (by kernel_rfl) rfl #[.slice A0 l0.length c0,.int .i64 a4] rfl (by (try simp only [List.map_toArray,List.map_cons,List.map_nil]);first | done | rfl | (simp only [List.length_drop,List.length_take];rfl)) ?_;(with_reducible refine (span_Last.calls _ _ l0 a4 t497 _ ?side1 ?side2 A41.out).mono ?_);(case side1 => repeat (first | exact (Kd.C_below HR0.out (by repeat (first | (with_reducible first | exact HB.out | apply below_alloc | apply pw_below_drewN | apply below_drew1 | refine below_set ?_ GE466.out) | exact HB.out))) | (with_reducible refine Kd.C_alloc ?_ _) | (with_reducible refine Kd.C_drewN ?_ _) | (with_reducible refine Kd.C_drew ?_)));(case side2 => exact HC0.out);rintro e w59 ⟨v498,rfl,ho0,hb⟩;refine ⟨_,rfl,?_⟩;have n0_:=Aside0.mk (Kd.R_elder' (by (with_reducible repeat (first | apply Kd.R_alloc | apply Kd.R_drewN | apply Kd.R_drew));exact HO478.out) (Kd.R_base ho0) hb);have n1_:=Aside0.mk (Kd.R_elder' (by (with_reducible repeat (first | apply Kd.R_alloc | apply Kd.R_drewN | apply Kd.R_drew));exact HO481.out) (Kd.R_base ho0) hb);have n2_:=Aside0.mk (Kd.R_elder' (by (with_reducible repeat (first | apply Kd.R_alloc | apply Kd.R_drewN | apply Kd.R_drew));exact HO485.out) (Kd.R_base ho0) hb);have n3_:=Aside0.mk (Kd.R_elder' (by (with_reducible repeat (first | apply Kd.R_alloc | apply Kd.R_drewN | apply Kd.R_drew));exact HO488.out) (Kd.R_base ho0) hb);have n4_:=Aside0.mk (Kd.R_elder' (by (with_reducible repeat (first | apply Kd.R_alloc | apply Kd.R_drewN | apply Kd.R_drew));exact HO492.out) (Kd.R_base ho0) hb);have n5_:=Aside0.mk (Kd.R_elder' (by (with_reducible repeat (first | apply Kd.R_alloc | apply Kd.R_drewN | apply Kd.R_drew));exact HO495.out) (Kd.R_base ho0) hb);have n6_:=Aside0.mk (Kd.R_lower (Kd.R_newB (Kd.R_new' (Kd.R_new' (Kd.R_new' (Kd.R_new' (Kd.R_new' (Kd.R_new' ho0 (Kd.R_lt (by (with_reducible repeat (first | apply Kd.R_alloc | apply Kd.R_drewN | apply Kd.R_drew));exact HO478.out))) (Kd.R_lt (by (with_reducible repeat (first | apply Kd.R_alloc | apply Kd.R_drewN | apply Kd.R_drew));exact HO481.out))) (Kd.R_lt (by (with_reducible repeat (first | apply Kd.R_alloc | apply Kd.R_drewN | apply Kd.R_drew));exact HO485.out))) (Kd.R_lt (by (with_reducible repeat (first | apply Kd.R_alloc | apply Kd.R_drewN | apply Kd.R_drew));exact HO488.out))) (Kd.R_lt (by (with_reducible repeat (first | apply Kd.R_alloc | apply Kd.R_drewN | apply Kd.R_drew));exact HO492.out))) (Kd.R_lt (by (with_reducible repeat (first | apply Kd.R_alloc | apply Kd.R_drewN | apply Kd.R_drew));exact HO495.out))) (g:=gb466) (o:=.cells #[.int .u64 a2_0,.int .u64 a2_1] 25 (0,0)) (by (with_reducible repeat (first | refine blk_drewN ?_ _ | refine blk_drew ?_ | refine blk_alloc ?_ _));exact BK466.out)) (below_size (by repeat (first | (with_reducible first | exact HB.out | apply below_alloc | apply pw_below_drewN | apply below_drew1 | refine below_set ?_ GE466.out) | exact HB.out))));have n7_:=Aside0.mk (blk_below (g:=gb466) (o:=.cells #[.int .u64 a2_0,.int .u64 a2_1] 25 (0,0)) (by (with_reducible repeat (first | refine blk_drewN ?_ _ | refine blk_drew ?_ | refine blk_alloc ?_ _));exact BK466.out) hb);have n8_:=Aside0.mk (below_step (by repeat (first | (with_reducible first | exact HB.out | apply below_alloc | apply pw_below_drewN | apply below_drew1 | refine below_set ?_ GE466.out) | exact HB.out)) hb);clear HO478;clear HO481;clear HO485;clear HO488;clear HO492;clear HO495;clear BK466;clear HB;have HO478:=n0_;have HO481:=n1_;have HO485:=n2_;have HO488:=n3_;have HO492:=n4_;have HO495:=n5_;have HO499:=n6_;have BK466:=n7_;have HB:=n8_;clear n0_ n1_ n2_ n3_ n4_ n5_ n6_ n7_ n8_;(try clear hb);(try clear hb2);(try clear hk);(try clear hi);(try clear ho0)) | ((with_reducible refine gate_callee (f:=24) rfl ?_);refine goesL_ (some 75) rfl rfl Try.func24 (by kernel_rfl) rfl #[.slice A0 l0.length c0,.int .i64 a4] rfl (by (try simp only [List.map_toArray,List.map_cons,List.map_nil]);first | done | rfl | (simp only [List.length_drop,List.length_take];rfl)) ?_;(with_reducible refine (wigwagref07_Last.calls _ _ l0 a4 t500 _ ?side1 ?side2 A42.out).mono ?_);(case side1 => repeat (first | exact (Kd.C_below HR0.out HB.out) | (with_reducible refine Kd.C_alloc ?_ _) | (with_reducible refine Kd.C_drewN ?_ _) | (with_reducible refine Kd.C_drew ?_)));(case side2 => exact HC0.out);rintro e w60 ⟨v501,rfl,ho0,hb⟩;refine ⟨_,rfl,?_⟩;have n0_:=Aside0.mk (Kd.R_elder' (by (with_reducible repeat (first | apply Kd.R_alloc | apply Kd.R_drewN | apply Kd.R_drew));exact HO478.out) (Kd.R_base ho0) hb);have n1_:=Aside0.mk (Kd.R_elder' (by (with_reducible repeat (first | apply Kd.R_alloc | apply Kd.R_drewN | apply Kd.R_drew));exact HO481.out) (Kd.R_base ho0) hb);have n2_:=Aside0.mk (Kd.R_elder' (by (with_reducible repeat (first | apply Kd.R_alloc | apply Kd.R_drewN | apply Kd.R_drew));exact HO485.out) (Kd.R_base ho0) hb);have n3_:=Aside0.mk (Kd.R_elder' (by (with_reducible repeat (first | apply Kd.R_alloc | apply Kd.R_drewN | apply Kd.R_drew));exact HO488.out) (Kd.R_base ho0) hb);have n4_:=Aside0.mk (Kd.R_elder' (by (with_reducible repeat (first | apply Kd.R_alloc | apply Kd.R_drewN | apply Kd.R_drew));exact HO492.out) (Kd.R_base ho0) hb);have n5_:=Aside0.mk (Kd.R_elder' (by (with_reducible repeat (first | apply Kd.R_alloc | apply Kd.R_drewN | apply Kd.R_drew));exact HO495.out) (Kd.R_base ho0) hb);have n6_:=Aside0.mk (Kd.R_elder' (by (with_reducible repeat (first | apply Kd.R_alloc | apply Kd.R_drewN | apply Kd.R_drew));exact HO499.out) (Kd.R_base ho0) hb);have n7_:=Aside0.mk (Kd.R_lower (Kd.R_newB (Kd.R_new' (Kd.R_new' (Kd.R_new' (Kd.R_new' (Kd.R_new' (Kd.R_new' (Kd.R_new' ho0 (Kd.R_lt (by (with_reducible repeat (first | apply Kd.R_alloc | apply Kd.R_drewN | apply Kd.R_drew));exact HO478.out))) (Kd.R_lt (by (with_reducible repeat (first | apply Kd.R_alloc | apply Kd.R_drewN | apply Kd.R_drew));exact HO481.out))) (Kd.R_lt (by (with_reducible repeat (first | apply Kd.R_alloc | apply Kd.R_drewN | apply Kd.R_drew));exact HO485.out))) (Kd.R_lt (by (with_reducible repeat (first | apply Kd.R_alloc | apply Kd.R_drewN | apply Kd.R_drew));exact HO488.out))) (Kd.R_lt (by (with_reducible repeat (first | apply Kd.R_alloc | apply Kd.R_drewN | apply Kd.R_drew));exact HO492.out))) (Kd.R_lt (by (with_reducible repeat (first | apply Kd.R_alloc | apply Kd.R_drewN | apply Kd.R_drew));exact HO495.out))) (Kd.R_lt (by (with_reducible repeat (first | apply Kd.R_alloc | apply Kd.R_drewN | apply Kd.R_drew));exact HO499.out))) (g:=gb466) (o:=.cells #[.int .u64 a2_0,.int .u64 a2_1] 25 (0,0)) (by (with_reducible repeat (first | refine blk_drewN ?_ _ | refine blk_drew ?_ | refine blk_alloc ?_ _));exact BK466.out)) (below_size (by repeat (first | (with_reducible first | exact HB.out | apply below_alloc | apply pw_below_drewN | apply below_drew1 | refine below_set ?_ GE466.out) | exact HB.out))));have n8_:=Aside0.mk (blk_below (g:=gb466) (o:=.cells #[.int .u64 a2_0,.int .u64 a2_1] 25 (0,0)) (by (with_reducible repeat (first | refine blk_drewN ?_ _ | refine blk_drew ?_ | refine blk_alloc ?_ _));exact BK466.out) hb);have n9_:=Aside0.mk (below_step (by repeat (first | (with_reducible first | exact HB.out | apply below_alloc | apply pw_below_drewN | apply below_drew1 | refine below_set ?_ GE466.out) | exact HB.out)) hb);clear HO478;clear HO481;clear HO485;clear HO488;clear HO492;clear HO495;clear HO499;clear BK466;clear HB;have HO478:=n0_;have HO481:=n1_;have HO485:=n2_;have HO488:=n3_;have HO492:=n4_;have HO495:=n5_;have HO499:=n6_;have HO502:=n7_;have BK466:=n8_;have HB:=n9_;clear n0_ n1_ n2_ n3_ n4_ n5_ n6_ n7_ n8_ n9_;(try clear hb);(try clear hb2);(try clear hk);(try clear hi);(try clear ho0);obtain ⟨Ao61,co61,eo61⟩:=Kd.R_slice HO499.out;subst eo61;obtain ⟨Ao62,co62,eo62⟩:=Kd.R_slice HO502.out;subst eo62) | ((with_reducible refine gate_callee (f:=16) rfl ?_);refine goesL_ (some 76) rfl rfl Try.func16 (by kernel_rfl) rfl #[.slice Ao61 t497.length co61,.slice Ao62 t500.length co62] rfl (by (try simp only [List.map_toArray,List.map_cons,List.map_nil]);first | done | rfl | (simp only [List.length_drop,List.length_take];rfl)) ?_;(with_reducible refine (wigwagref07_Same.calls kj23 _ _ t497 _ _ t500 t503 _ ?side1 ?side2 ?side3 ?side4 A43.out).mono ?_);(case side1 => repeat (first | exact (Kd.R_reads' HO499.out).2.2 | (with_reducible refine Kd.C_alloc ?_ _) | (with_reducible refine Kd.C_drewN ?_ _) | (with_reducible refine Kd.C_drew ?_)));(case side2 => exact (Kd.R_reads' HO499.out).2.1);(case side3 => repeat (first | exact (Kd.R_reads' HO502.out).2.2 | (with_reducible refine Kd.C_alloc ?_ _) | (with_reducible refine Kd.C_drewN ?_ _) | (with_reducible refine Kd.C_drew ?_)));(case side4 => exact (Kd.R_reads' HO502.out).2.1);rintro e w' ⟨rfl,⟨nd,rfl⟩⟩;refine ⟨_,rfl,?_⟩))
          (try simp only [Act.put,List.setIfInBounds_toArray,List.set_cons_zero,List.set_cons_succ])
          have H:=HS44.out
          clear HS44
          by_cases c63 : t467 = true
          ·subst c63
           have H1 : (if t482 = true then (if t489 = true then (if t496 = true then (if t503 = true then ((span_Size.f kj23 l0).bind fun t504 => ((wigwagref07_Size.f kj23 l0).bind fun t505 => (some (t504 == t505)))) else (some false)) else (some false)) else (some false)) else (some false)) = some r:=by rw [if_pos rfl] at H;exact H
           clear H
           have H:=H1
           clear H1
           by_cases c64 : t482 = true
           ·subst c64
            have H1 : (if t489 = true then (if t496 = true then (if t503 = true then ((span_Size.f kj23 l0).bind fun t504 => ((wigwagref07_Size.f kj23 l0).bind fun t505 => (some (t504 == t505)))) else (some false)) else (some false)) else (some false)) = some r:=by rw [if_pos rfl] at H;exact H
            clear H
            have H:=H1
            clear H1
            by_cases c65 : t489 = true
            ·subst c65
             have H1 : (if t496 = true then (if t503 = true then ((span_Size.f kj23 l0).bind fun t504 => ((wigwagref07_Size.f kj23 l0).bind fun t505 => (some (t504 == t505)))) else (some false)) else (some false)) = some r:=by rw [if_pos rfl] at H;exact H
             clear H
             have H:=H1
             clear H1
             by_cases c66 : t496 = true
             ·subst c66
              have H1 : (if t503 = true then ((span_Size.f kj23 l0).bind fun t504 => ((wigwagref07_Size.f kj23 l0).bind fun t505 => (some (t504 == t505)))) else (some false)) = some r:=by rw [if_pos rfl] at H;exact H
              clear H
              have H:=H1
              clear H1
              by_cases c67 : t503 = true
              ·subst c67
               have H1 : ((span_Size.f kj23 l0).bind fun t504 => ((wigwagref07_Size.f kj23 l0).bind fun t505 => (some (t504 == t505)))) = some r:=by rw [if_pos rfl] at H;exact H
               clear H
               have H:=H1
               clear H1
               replace H:=Option.bind_eq_some_iff.mp H
               obtain ⟨t504,A680,H⟩:=H
               replace H : ((wigwagref07_Size.f kj23 l0).bind fun t505 => (some (t504 == t505))) = some r:=H
               have A68:=Aside0.mk A680
               clear A680
               replace H:=Option.bind_eq_some_iff.mp H
               obtain ⟨t505,A690,H⟩:=H
               replace H : (some (t504 == t505)) = some r:=H
               have A69:=Aside0.mk A690
               clear A690
               obtain rfl:=Option.some.inj H
               go_wp2_with (first | (go_at_call 25;(with_reducible refine (span_Size.calls kj23 _ _ l0 t504 _ ?side1 ?side2 A68.out).mono ?_);(case side1 => repeat (first | exact (Kd.C_below HR0.out HB.out) | (with_reducible refine Kd.C_alloc ?_ _) | (with_reducible refine Kd.C_drewN ?_ _) | (with_reducible refine Kd.C_drew ?_)));(case side2 => exact HC0.out);rintro e w70 ⟨rfl,hb⟩;have n0_:=Aside0.mk (Kd.R_below (by (with_reducible repeat (first | apply Kd.R_alloc | apply Kd.R_drewN | apply Kd.R_drew));exact HO478.out) hb);have n1_:=Aside0.mk (Kd.R_below (by (with_reducible repeat (first | apply Kd.R_alloc | apply Kd.R_drewN | apply Kd.R_drew));exact HO481.out) hb);have n2_:=Aside0.mk (Kd.R_below (by (with_reducible repeat (first | apply Kd.R_alloc | apply Kd.R_drewN | apply Kd.R_drew));exact HO485.out) hb);have n3_:=Aside0.mk (Kd.R_below (by (with_reducible repeat (first | apply Kd.R_alloc | apply Kd.R_drewN | apply Kd.R_drew));exact HO488.out) hb);have n4_:=Aside0.mk (Kd.R_below (by (with_reducible repeat (first | apply Kd.R_alloc | apply Kd.R_drewN | apply Kd.R_drew));exact HO492.out) hb);have n5_:=Aside0.mk (Kd.R_below (by (with_reducible repeat (first | apply Kd.R_alloc | apply Kd.R_drewN | apply Kd.R_drew));exact HO495.out) hb);have n6_:=Aside0.mk (Kd.R_below (by (with_reducible repeat (first | apply Kd.R_alloc | apply Kd.R_drewN | apply Kd.R_drew));exact HO499.out) hb);have n7_:=Aside0.mk (Kd.R_below (by (with_reducible repeat (first | apply Kd.R_alloc | apply Kd.R_drewN | apply Kd.R_drew));exact HO502.out) hb);have n8_:=Aside0.mk (blk_below (g:=gb466) (o:=.cells #[.int .u64 a2_0,.int .u64 a2_1] 25 (0,0)) (by (with_reducible repeat (first | refine blk_drewN ?_ _ | refine blk_drew ?_ | refine blk_alloc ?_ _));exact BK466.out) hb);have n9_:=Aside0.mk (below_step (by repeat (first | (with_reducible first | exact HB.out | apply below_alloc | apply pw_below_drewN | apply below_drew1 | refine below_set ?_ GE466.out) | exact HB.out)) hb);clear HO478;clear HO481;clear HO485;clear HO488;clear HO492;clear HO495;clear HO499;clear HO502;clear BK466;clear HB;have HO478:=n0_;have HO481:=n1_;have HO485:=n2_;have HO488:=n3_;have HO492:=n4_;have HO495:=n5_;have HO499:=n6_;have HO502:=n7_;have BK466:=n8_;have HB:=n9_;clear n0_ n1_ n2_ n3_ n4_ n5_ n6_ n7_ n8_ n9_;(try clear hb);(try clear hb2);(try clear hk);(try clear hi)) | (go_at_call 26;(with_reducible refine (wigwagref07_Size.calls kj23 _ _ l0 t505 _ ?side1 ?side2 A69.out).mono ?_);(case side1 => repeat (first | exact (Kd.C_below HR0.out HB.out) | (with_reducible refine Kd.C_alloc ?_ _) | (with_reducible refine Kd.C_drewN ?_ _) | (with_reducible refine Kd.C_drew ?_)));(case side2 => exact HC0.out);rintro e w' ⟨rfl,⟨nd,rfl⟩⟩))
               go_ret
               exact ⟨by first | rfl | (simp [errW_none,errW_some] <;> rfl) | (simp [*,errW_none,errW_some] <;> rfl),by repeat (first | (with_reducible first | exact HB.out | apply below_alloc | apply pw_below_drewN | apply below_drew1 | refine below_set ?_ GE466.out) | exact HB.out)⟩
              ·replace c67:=Bool.eq_false_iff.mpr c67
               subst c67
               have H1 : (some false) = some r:=by rw [if_neg (show ¬ (false = true) by decide)] at H;exact H
               clear H
               have H:=H1
               clear H1
               obtain rfl:=Option.some.inj H
               go_wp2
               go_ret
               exact ⟨by first | rfl | (simp [errW_none,errW_some] <;> rfl) | (simp [*,errW_none,errW_some] <;> rfl),by repeat (first | (with_reducible first | exact HB.out | apply below_alloc | apply pw_below_drewN | apply below_drew1 | refine below_set ?_ GE466.out) | exact HB.out)⟩
             ·replace c66:=Bool.eq_false_iff.mpr c66
              subst c66
              have H1 : (some false) = some r:=by rw [if_neg (show ¬ (false = true) by decide)] at H;exact H
              clear H
              have H:=H1
              clear H1
              obtain rfl:=Option.some.inj H
              go_wp2
              go_ret
              exact ⟨by first | rfl | (simp [errW_none,errW_some] <;> rfl) | (simp [*,errW_none,errW_some] <;> rfl),by repeat (first | (with_reducible first | exact HB.out | apply below_alloc | apply pw_below_drewN | apply below_drew1 | refine below_set ?_ GE466.out) | exact HB.out)⟩
            ·replace c65:=Bool.eq_false_iff.mpr c65
             subst c65
             have H1 : (some false) = some r:=by rw [if_neg (show ¬ (false = true) by decide)] at H;exact H
             clear H
             have H:=H1
             clear H1
             obtain rfl:=Option.some.inj H
             go_wp2
             go_ret
             exact ⟨by first | rfl | (simp [errW_none,errW_some] <;> rfl) | (simp [*,errW_none,errW_some] <;> rfl),by repeat (first | (with_reducible first | exact HB.out | apply below_alloc | apply pw_below_drewN | apply below_drew1 | refine below_set ?_ GE466.out) | exact HB.out)⟩
           ·replace c64:=Bool.eq_false_iff.mpr c64
            subst c64
            have H1 : (some false) = some r:=by rw [if_neg (show ¬ (false = true) by decide)] at H;exact H
            clear H
            have H:=H1
            clear H1
            obtain rfl:=Option.some.inj H
            go_wp2
            go_ret
            exact ⟨by first | rfl | (simp [errW_none,errW_some] <;> rfl) | (simp [*,errW_none,errW_some] <;> rfl),by repeat (first | (with_reducible first | exact HB.out | apply below_alloc | apply pw_below_drewN | apply below_drew1 | refine below_set ?_ GE466.out) | exact HB.out)⟩
          ·replace c63:=Bool.eq_false_iff.mpr c63
           subst c63
           have H1 : (some false) = some r:=by rw [if_neg (show ¬ (false = true) by decide)] at H;exact H
           clear H
           have H:=H1
           clear H1
           obtain rfl:=Option.some.inj H
           go_wp2
           go_ret
           exact ⟨by first | rfl | (simp [errW_none,errW_some] <;> rfl) | (simp [*,errW_none,errW_some] <;> rfl),by repeat (first | (with_reducible first | exact HB.out | apply below_alloc | apply pw_below_drewN | apply below_drew1 | refine below_set ?_ GE466.out) | exact HB.out)⟩

end Go.Proofs.Ytgaccappklhojaa.P
