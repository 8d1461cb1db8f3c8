-- Printed for this claim by xprint.py of this session: contracts of this session's own stand in for what the print does not take
import Derived.Test.YtgaccappklhojaaPx0
import Derived.Test.YtgaccappklhojaaPx2
import Derived.Test.YtgaccappklhojaaPx4
import Derived.Test.YtgaccappklhojaaPx5
import Derived.Test.YtgaccappklhojaaPx6
import Derived.Test.YtgaccappklhojaaPx7
import Derived.Test.YtgaccappklhojaaPx9
import Derived.Test.YtgaccappklhojaaPx10
namespace Go.Proofs.Ytgaccappklhojaa.P
open Go.RowKit Go.Proofs.YtgaccappklhojaaW.PrintWords Go.Proofs.YtgaccappklhojaaW.PrintLast Go.Proofs.YtgaccappklhojaaW.PrintMore
attribute [local go_sem] max2_int min2_int max_two min_two max_three min_three max_four min_four   -- for this text's walks alone
set_option linter.unusedVariables false
set_option linter.unusedSimpArgs false

/-! ### wigwaglaw07_SpanHolds: function 4 -/
mutual
def wigwaglaw07_SpanHolds.j0 : Nat → List (S25) → List (S25) → Int → Bool → Bool → Int → Int → Option (Bool)
 | 0,_,_,_,_,_,_,_ => none
 | k + 1,x0,x1,x3,x9,x35,x236000,x236001 => if x35 = true then (some x9) else (if x3 ≥ x236000 then (wigwaglaw07_SpanHolds.j1 k x0 x1 x3 x9 (decide (x3 < x236001)) x236000 x236001) else (wigwaglaw07_SpanHolds.j1 k x0 x1 x3 x9 false x236000 x236001))
def wigwaglaw07_SpanHolds.j1 : Nat → List (S25) → List (S25) → Int → Bool → Bool → Int → Int → Option (Bool)
 | 0,_,_,_,_,_,_,_ => none
 | k + 1,x0,x1,x3,x9,x10,x236000,x236001 => (span_Add.f k x0 x236000 x236001).bind fun t241 => ((span_Cut.f x0 x236000 x236001).bind fun t244 => ((span_Both.f k x0 x1).bind fun t247 => ((span_Has.f k t241 x3).bind fun t250 => ((span_Has.f k x0 x3).bind fun t251 => (if t251 = true then (wigwaglaw07_SpanHolds.j2 k x0 x1 x3 x9 x10 t241 t244 t247 (t250 == true)) else (wigwaglaw07_SpanHolds.j2 k x0 x1 x3 x9 x10 t241 t244 t247 (t250 == x10)))))))
def wigwaglaw07_SpanHolds.j2 : Nat → List (S25) → List (S25) → Int → Bool → Bool → List (S25) → List (S25) → List (S25) → Bool → Option (Bool)
 | 0,_,_,_,_,_,_,_,_,_ => none
 | k + 1,x0,x1,x3,x9,x10,x11,x12,x13,x14 => (span_Has.f k x12 x3).bind fun t252 => ((span_Has.f k x0 x3).bind fun t253 => (if t253 = true then (wigwaglaw07_SpanHolds.j3 k x0 x1 x3 x9 x11 x12 x13 x14 (t252 == (!x10))) else (wigwaglaw07_SpanHolds.j3 k x0 x1 x3 x9 x11 x12 x13 x14 (t252 == false))))
def wigwaglaw07_SpanHolds.j3 : Nat → List (S25) → List (S25) → Int → Bool → List (S25) → List (S25) → List (S25) → Bool → Bool → Option (Bool)
 | 0,_,_,_,_,_,_,_,_,_ => none
 | k + 1,x0,x1,x3,x9,x11,x12,x13,x14,x15 => (span_Has.f k x13 x3).bind fun t254 => ((span_Has.f k x0 x3).bind fun t255 => (if t255 = true then ((span_Has.f k x1 x3).bind fun t256 => (wigwaglaw07_SpanHolds.j4 k x9 x11 x12 x13 x14 x15 (t254 == t256))) else (wigwaglaw07_SpanHolds.j4 k x9 x11 x12 x13 x14 x15 (t254 == false))))
def wigwaglaw07_SpanHolds.j4 : Nat → Bool → List (S25) → List (S25) → List (S25) → Bool → Bool → Bool → Option (Bool)
 | 0,_,_,_,_,_,_,_ => none
 | k + 1,x9,x11,x12,x13,x14,x15,x16 => if x9 = true then (if x14 = true then (if x15 = true then (if x16 = true then ((span_Check.f k x11).bind fun t257 => (if t257 = true then ((span_Check.f k x12).bind fun t258 => (if t258 = true then ((span_Check.f k x13).bind fun t259 => (some t259)) else (some false))) else (some false))) else (some false)) else (some false)) else (some false)) else (some false)
end
def wigwaglaw07_SpanHolds.f (k : Nat) (l0 : List (S25)) (l1 : List (S25)) (a2_0 : Int) (a2_1 : Int) (a3 : Int) : Option (Bool):=(wigwaglaw07_awake.f k).bind fun t236 => ((wigwaglaw07_few.f l0).bind fun t237 => (if t237 = true then ((wigwaglaw07_few.f l1).bind fun t238 => (if t238 = true then ((span_Check.f k l0).bind fun t239 => (if t239 = true then ((span_Check.f k l1).bind fun t240 => (wigwaglaw07_SpanHolds.j0 k l0 l1 a3 t236 (!t240) a2_0 a2_1)) else (wigwaglaw07_SpanHolds.j0 k l0 l1 a3 t236 true a2_0 a2_1))) else (wigwaglaw07_SpanHolds.j0 k l0 l1 a3 t236 true a2_0 a2_1))) else (wigwaglaw07_SpanHolds.j0 k l0 l1 a3 t236 true a2_0 a2_1)))
theorem wigwaglaw07_SpanHolds.mono_l : ∀ k,(∀ y0 y1 y2 y3 y4 y5 y6,LeO (wigwaglaw07_SpanHolds.j0 k y0 y1 y2 y3 y4 y5 y6) (wigwaglaw07_SpanHolds.j0 (k + 1) y0 y1 y2 y3 y4 y5 y6)) ∧ (∀ y0 y1 y2 y3 y4 y5 y6,LeO (wigwaglaw07_SpanHolds.j1 k y0 y1 y2 y3 y4 y5 y6) (wigwaglaw07_SpanHolds.j1 (k + 1) y0 y1 y2 y3 y4 y5 y6)) ∧ (∀ y0 y1 y2 y3 y4 y5 y6 y7 y8,LeO (wigwaglaw07_SpanHolds.j2 k y0 y1 y2 y3 y4 y5 y6 y7 y8) (wigwaglaw07_SpanHolds.j2 (k + 1) y0 y1 y2 y3 y4 y5 y6 y7 y8)) ∧ (∀ y0 y1 y2 y3 y4 y5 y6 y7 y8,LeO (wigwaglaw07_SpanHolds.j3 k y0 y1 y2 y3 y4 y5 y6 y7 y8) (wigwaglaw07_SpanHolds.j3 (k + 1) y0 y1 y2 y3 y4 y5 y6 y7 y8)) ∧ (∀ y0 y1 y2 y3 y4 y5 y6,LeO (wigwaglaw07_SpanHolds.j4 k y0 y1 y2 y3 y4 y5 y6) (wigwaglaw07_SpanHolds.j4 (k + 1) y0 y1 y2 y3 y4 y5 y6))
 | 0 => ⟨fun _ _ _ _ _ _ _ r h => by simp [wigwaglaw07_SpanHolds.j0] at h,fun _ _ _ _ _ _ _ r h => by simp [wigwaglaw07_SpanHolds.j1] at h,fun _ _ _ _ _ _ _ _ _ r h => by simp [wigwaglaw07_SpanHolds.j2] at h,fun _ _ _ _ _ _ _ _ _ r h => by simp [wigwaglaw07_SpanHolds.j3] at h,fun _ _ _ _ _ _ _ r h => by simp [wigwaglaw07_SpanHolds.j4] at h⟩
 | k + 1 => by
  obtain ⟨ih0,ih1,ih2,ih3,ih4⟩:=wigwaglaw07_SpanHolds.mono_l k
  refine ⟨?_,?_,?_,?_,?_⟩
  ·intro y0 y1 y2 y3 y4 y5 y6
   unfold wigwaglaw07_SpanHolds.j0
   repeat' first
   | (with_reducible exact ih0 _ _ _ _ _ _ _)
   | (with_reducible exact ih1 _ _ _ _ _ _ _)
   | (with_reducible exact ih2 _ _ _ _ _ _ _ _ _)
   | (with_reducible exact ih3 _ _ _ _ _ _ _ _ _)
   | (with_reducible exact ih4 _ _ _ _ _ _ _)
   | (with_reducible exact span_Add.mono _ _ _ _)
   | (with_reducible exact span_Both.mono _ _ _)
   | (with_reducible exact span_Check.mono _ _)
   | (with_reducible exact span_Has.mono _ _ _)
   | (with_reducible exact wigwaglaw07_awake.mono _)
   | (with_reducible exact LeO.refl _)
   | (with_reducible exact LeO.none _)
   | (with_reducible refine LeO.ite ?_ ?_)
   | (with_reducible refine LeO.bind ?_ (fun _ => ?_))
   | exact ih0 _ _ _ _ _ _ _
   | exact ih1 _ _ _ _ _ _ _
   | exact ih2 _ _ _ _ _ _ _ _ _
   | exact ih3 _ _ _ _ _ _ _ _ _
   | exact ih4 _ _ _ _ _ _ _
   | exact span_Add.mono _ _ _ _
   | exact span_Both.mono _ _ _
   | exact span_Check.mono _ _
   | exact span_Has.mono _ _ _
   | exact wigwaglaw07_awake.mono _
   | exact LeO.none _
   | refine LeO.ite ?_ ?_
   | refine LeO.bind ?_ (fun _ => ?_)
  ·intro y0 y1 y2 y3 y4 y5 y6
   unfold wigwaglaw07_SpanHolds.j1
   repeat' first
   | (with_reducible exact ih0 _ _ _ _ _ _ _)
   | (with_reducible exact ih1 _ _ _ _ _ _ _)
   | (with_reducible exact ih2 _ _ _ _ _ _ _ _ _)
   | (with_reducible exact ih3 _ _ _ _ _ _ _ _ _)
   | (with_reducible exact ih4 _ _ _ _ _ _ _)
   | (with_reducible exact span_Add.mono _ _ _ _)
   | (with_reducible exact span_Both.mono _ _ _)
   | (with_reducible exact span_Check.mono _ _)
   | (with_reducible exact span_Has.mono _ _ _)
   | (with_reducible exact wigwaglaw07_awake.mono _)
   | (with_reducible exact LeO.refl _)
   | (with_reducible exact LeO.none _)
   | (with_reducible refine LeO.ite ?_ ?_)
   | (with_reducible refine LeO.bind ?_ (fun _ => ?_))
   | exact ih0 _ _ _ _ _ _ _
   | exact ih1 _ _ _ _ _ _ _
   | exact ih2 _ _ _ _ _ _ _ _ _
   | exact ih3 _ _ _ _ _ _ _ _ _
   | exact ih4 _ _ _ _ _ _ _
   | exact span_Add.mono _ _ _ _
   | exact span_Both.mono _ _ _
   | exact span_Check.mono _ _
   | exact span_Has.mono _ _ _
   | exact wigwaglaw07_awake.mono _
   | exact LeO.none _
   | refine LeO.ite ?_ ?_
   | refine LeO.bind ?_ (fun _ => ?_)
  ·intro y0 y1 y2 y3 y4 y5 y6 y7 y8
   unfold wigwaglaw07_SpanHolds.j2
   repeat' first
   | (with_reducible exact ih0 _ _ _ _ _ _ _)
   | (with_reducible exact ih1 _ _ _ _ _ _ _)
   | (with_reducible exact ih2 _ _ _ _ _ _ _ _ _)
   | (with_reducible exact ih3 _ _ _ _ _ _ _ _ _)
   | (with_reducible exact ih4 _ _ _ _ _ _ _)
   | (with_reducible exact span_Add.mono _ _ _ _)
   | (with_reducible exact span_Both.mono _ _ _)
   | (with_reducible exact span_Check.mono _ _)
   | (with_reducible exact span_Has.mono _ _ _)
   | (with_reducible exact wigwaglaw07_awake.mono _)
   | (with_reducible exact LeO.refl _)
   | (with_reducible exact LeO.none _)
   | (with_reducible refine LeO.ite ?_ ?_)
   | (with_reducible refine LeO.bind ?_ (fun _ => ?_))
   | exact ih0 _ _ _ _ _ _ _
   | exact ih1 _ _ _ _ _ _ _
   | exact ih2 _ _ _ _ _ _ _ _ _
   | exact ih3 _ _ _ _ _ _ _ _ _
   | exact ih4 _ _ _ _ _ _ _
   | exact span_Add.mono _ _ _ _
   | exact span_Both.mono _ _ _
   | exact span_Check.mono _ _
   | exact span_Has.mono _ _ _
   | exact wigwaglaw07_awake.mono _
   | exact LeO.none _
   | refine LeO.ite ?_ ?_
   | refine LeO.bind ?_ (fun _ => ?_)
  ·intro y0 y1 y2 y3 y4 y5 y6 y7 y8
   unfold wigwaglaw07_SpanHolds.j3
   repeat' first
   | (with_reducible exact ih0 _ _ _ _ _ _ _)
   | (with_reducible exact ih1 _ _ _ _ _ _ _)
   | (with_reducible exact ih2 _ _ _ _ _ _ _ _ _)
   | (with_reducible exact ih3 _ _ _ _ _ _ _ _ _)
   | (with_reducible exact ih4 _ _ _ _ _ _ _)
   | (with_reducible exact span_Add.mono _ _ _ _)
   | (with_reducible exact span_Both.mono _ _ _)
   | (with_reducible exact span_Check.mono _ _)
   | (with_reducible exact span_Has.mono _ _ _)
   | (with_reducible exact wigwaglaw07_awake.mono _)
   | (with_reducible exact LeO.refl _)
   | (with_reducible exact LeO.none _)
   | (with_reducible refine LeO.ite ?_ ?_)
   | (with_reducible refine LeO.bind ?_ (fun _ => ?_))
   | exact ih0 _ _ _ _ _ _ _
   | exact ih1 _ _ _ _ _ _ _
   | exact ih2 _ _ _ _ _ _ _ _ _
   | exact ih3 _ _ _ _ _ _ _ _ _
   | exact ih4 _ _ _ _ _ _ _
   | exact span_Add.mono _ _ _ _
   | exact span_Both.mono _ _ _
   | exact span_Check.mono _ _
   | exact span_Has.mono _ _ _
   | exact wigwaglaw07_awake.mono _
   | exact LeO.none _
   | refine LeO.ite ?_ ?_
   | refine LeO.bind ?_ (fun _ => ?_)
  ·intro y0 y1 y2 y3 y4 y5 y6
   unfold wigwaglaw07_SpanHolds.j4
   repeat' first
   | (with_reducible exact ih0 _ _ _ _ _ _ _)
   | (with_reducible exact ih1 _ _ _ _ _ _ _)
   | (with_reducible exact ih2 _ _ _ _ _ _ _ _ _)
   | (with_reducible exact ih3 _ _ _ _ _ _ _ _ _)
   | (with_reducible exact ih4 _ _ _ _ _ _ _)
   | (with_reducible exact span_Add.mono _ _ _ _)
   | (with_reducible exact span_Both.mono _ _ _)
   | (with_reducible exact span_Check.mono _ _)
   | (with_reducible exact span_Has.mono _ _ _)
   | (with_reducible exact wigwaglaw07_awake.mono _)
   | (with_reducible exact LeO.refl _)
   | (with_reducible exact LeO.none _)
   | (with_reducible refine LeO.ite ?_ ?_)
   | (with_reducible refine LeO.bind ?_ (fun _ => ?_))
   | exact ih0 _ _ _ _ _ _ _
   | exact ih1 _ _ _ _ _ _ _
   | exact ih2 _ _ _ _ _ _ _ _ _
   | exact ih3 _ _ _ _ _ _ _ _ _
   | exact ih4 _ _ _ _ _ _ _
   | exact span_Add.mono _ _ _ _
   | exact span_Both.mono _ _ _
   | exact span_Check.mono _ _
   | exact span_Has.mono _ _ _
   | exact wigwaglaw07_awake.mono _
   | exact LeO.none _
   | refine LeO.ite ?_ ?_
   | refine LeO.bind ?_ (fun _ => ?_)
theorem wigwaglaw07_SpanHolds.mono : ∀ a0 a1 a2 a3 a4 k,LeO (wigwaglaw07_SpanHolds.f k a0 a1 a2 a3 a4) (wigwaglaw07_SpanHolds.f (k + 1) a0 a1 a2 a3 a4):=by
 intro a0 a1 a2 a3 a4 k
 obtain ⟨ih0,ih1,ih2,ih3,ih4⟩:=wigwaglaw07_SpanHolds.mono_l k
 unfold wigwaglaw07_SpanHolds.f
 repeat' first
   | (with_reducible exact ih0 _ _ _ _ _ _ _)
   | (with_reducible exact ih1 _ _ _ _ _ _ _)
   | (with_reducible exact ih2 _ _ _ _ _ _ _ _ _)
   | (with_reducible exact ih3 _ _ _ _ _ _ _ _ _)
   | (with_reducible exact ih4 _ _ _ _ _ _ _)
   | (with_reducible exact span_Add.mono _ _ _ _)
   | (with_reducible exact span_Both.mono _ _ _)
   | (with_reducible exact span_Check.mono _ _)
   | (with_reducible exact span_Has.mono _ _ _)
   | (with_reducible exact wigwaglaw07_awake.mono _)
   | (with_reducible exact LeO.refl _)
   | (with_reducible exact LeO.none _)
   | (with_reducible refine LeO.ite ?_ ?_)
   | (with_reducible refine LeO.bind ?_ (fun _ => ?_))
   | exact ih0 _ _ _ _ _ _ _
   | exact ih1 _ _ _ _ _ _ _
   | exact ih2 _ _ _ _ _ _ _ _ _
   | exact ih3 _ _ _ _ _ _ _ _ _
   | exact ih4 _ _ _ _ _ _ _
   | exact span_Add.mono _ _ _ _
   | exact span_Both.mono _ _ _
   | exact span_Check.mono _ _
   | exact span_Has.mono _ _ _
   | exact wigwaglaw07_awake.mono _
   | exact LeO.none _
   | refine LeO.ite ?_ ?_
   | refine LeO.bind ?_ (fun _ => ?_)
set_option maxHeartbeats 8000000 in
set_option maxRecDepth 100000 in
theorem wigwaglaw07_SpanHolds.calls (k : Nat) (A0 : Option Addr) (c0 : Nat) (l0 : List (S25)) (A1 : Option Addr) (c1 : Nat) (l1 : List (S25)) (a2_0 : Int) (a2_1 : Int) (a3 : Int) (r : Bool) (w : World) (hr0 : Kd.C k25 w A0 l0.length l0) (hc0 : l0.length ≤ c0) (hr1 : Kd.C k25 w A1 l1.length l1) (hc1 : l1.length ≤ c1) (h : wigwaglaw07_SpanHolds.f k l0 l1 a2_0 a2_1 a3 = some r) :
  Calls Try.prog 4 #[.slice A0 l0.length c0,.slice A1 l1.length c1,.agg #[.int .u64 a2_0,.int .u64 a2_1],.int .u64 a3] w fun e w' => e = .returned (.bool r) ∧ Below w.heap.size w w':=by
 have hu25:=Try.underlying25
 have HR0:=Aside0.mk hr0
 have HC0:=Aside0.mk hc0
 clear hr0 hc0
 have HR1:=Aside0.mk hr1
 have HC1:=Aside0.mk hc1
 clear hr1 hc1
 have HB:=Aside0.mk (Below.refl w.heap.size w)
 have H : ((wigwaglaw07_awake.f k).bind fun t236 => ((wigwaglaw07_few.f l0).bind fun t237 => (if t237 = true then ((wigwaglaw07_few.f l1).bind fun t238 => (if t238 = true then ((span_Check.f k l0).bind fun t239 => (if t239 = true then ((span_Check.f k l1).bind fun t240 => (wigwaglaw07_SpanHolds.j0 k l0 l1 a3 t236 (!t240) a2_0 a2_1)) else (wigwaglaw07_SpanHolds.j0 k l0 l1 a3 t236 true a2_0 a2_1))) else (wigwaglaw07_SpanHolds.j0 k l0 l1 a3 t236 true a2_0 a2_1))) else (wigwaglaw07_SpanHolds.j0 k l0 l1 a3 t236 true a2_0 a2_1)))) = some r:=h
 clear h
 replace H:=Option.bind_eq_some_iff.mp H
 obtain ⟨t236,A50,H⟩:=H
 replace H : ((wigwaglaw07_few.f l0).bind fun t237 => (if t237 = true then ((wigwaglaw07_few.f l1).bind fun t238 => (if t238 = true then ((span_Check.f k l0).bind fun t239 => (if t239 = true then ((span_Check.f k l1).bind fun t240 => (wigwaglaw07_SpanHolds.j0 k l0 l1 a3 t236 (!t240) a2_0 a2_1)) else (wigwaglaw07_SpanHolds.j0 k l0 l1 a3 t236 true a2_0 a2_1))) else (wigwaglaw07_SpanHolds.j0 k l0 l1 a3 t236 true a2_0 a2_1))) else (wigwaglaw07_SpanHolds.j0 k l0 l1 a3 t236 true a2_0 a2_1))) = some r:=H
 have A5:=Aside0.mk A50
 clear A50
 have HC6:=Aside0.mk H
 clear H
 go_enter Try.func4,Try.ntmps4
 go_upto_region 2 with (first | ((with_reducible refine gate_dst (N:=6) rfl ?_);refine box_event ?hg (N:=6) ?hd (cs:=#[.int .u64 a2_0,.int .u64 a2_1]) (t:=25) ?hr ?_;(case hd => rfl);(case hg => rfl);(case hr => first | (go_simp;done) | (go_simp;rfl));intro gb235 hg w7 hbox hb;have n0_:=Aside0.mk (below_step (by repeat (first | (with_reducible first | exact HB.out | apply below_alloc | apply pw_below_drewN | apply below_drew1) | exact HB.out)) hb);have n1_:=Aside0.mk (hbox);have n2_:=Aside0.mk ((by rw [hg];exact (below_size (by repeat (first | (with_reducible first | exact HB.out | apply below_alloc | apply pw_below_drewN | apply below_drew1) | exact HB.out))) : w.heap.size ≤ gb235));have n3_:=Aside0.mk ((by rw [hg];exact (below_size (by repeat (first | (with_reducible first | exact HB.out | apply below_alloc | apply pw_below_drewN | apply below_drew1) | exact HB.out))) : w.heap.size ≤ gb235));clear HB;have HB:=n0_;have BK235:=n1_;have GW235:=n2_;have GE235:=n3_;clear n0_ n1_ n2_ n3_;clear hb hbox hg) | ((with_reducible refine gate_callee (f:=10) rfl ?_);refine goesL_ (some 17) rfl rfl Try.func10 (by kernel_rfl) rfl #[] rfl (by (try simp only [List.map_toArray,List.map_cons,List.map_nil]);first | done | rfl | (simp only [List.length_drop,List.length_take];rfl)) ?_;(with_reducible refine (wigwaglaw07_awake.calls k  t236 _ A5.out).mono ?_);rintro e w8 ⟨rfl,hb⟩;refine ⟨_,rfl,?_⟩;have n0_:=Aside0.mk (blk_below (g:=gb235) (o:=.cells #[.int .u64 a2_0,.int .u64 a2_1] 25 (0,0)) (by (with_reducible repeat (first | refine blk_drewN ?_ _ | refine blk_drew ?_ | refine blk_alloc ?_ _));exact BK235.out) hb);have n1_:=Aside0.mk (below_step (by repeat (first | (with_reducible first | exact HB.out | apply below_alloc | apply pw_below_drewN | apply below_drew1 | refine below_set ?_ GE235.out) | exact HB.out)) hb);clear BK235;clear HB;have BK235:=n0_;have HB:=n1_;clear n0_ n1_;(try clear hb);(try clear hb2);(try clear hk);(try clear hi)))
 (try simp only [Act.put,List.setIfInBounds_toArray,List.set_cons_zero,List.set_cons_succ])
 go_cut [35] (fun v35 wc => ∃ (kq : Nat) (x35_5 : Bool),v35 = .bool x35_5 ∧ Aside0 (wigwaglaw07_SpanHolds.j0 kq l0 l1 a3 t236 x35_5 a2_0 a2_1 = some r) ∧ Aside0 (kq ≤ k) ∧ Aside0 (wc.heap[gb235]? = some (.cells #[.int .u64 a2_0,.int .u64 a2_1] 25 (0,0))) ∧ Aside0 (Below w.heap.size w wc))
 case first =>
  have H:=HC6.out
  clear HC6
  replace H:=Option.bind_eq_some_iff.mp H
  obtain ⟨t237,A90,H⟩:=H
  replace H : (if t237 = true then ((wigwaglaw07_few.f l1).bind fun t238 => (if t238 = true then ((span_Check.f k l0).bind fun t239 => (if t239 = true then ((span_Check.f k l1).bind fun t240 => (wigwaglaw07_SpanHolds.j0 k l0 l1 a3 t236 (!t240) a2_0 a2_1)) else (wigwaglaw07_SpanHolds.j0 k l0 l1 a3 t236 true a2_0 a2_1))) else (wigwaglaw07_SpanHolds.j0 k l0 l1 a3 t236 true a2_0 a2_1))) else (wigwaglaw07_SpanHolds.j0 k l0 l1 a3 t236 true a2_0 a2_1)) = some r:=H
  have A9:=Aside0.mk A90
  clear A90
  by_cases c10 : t237 = true
  ·subst c10
   have H1 : ((wigwaglaw07_few.f l1).bind fun t238 => (if t238 = true then ((span_Check.f k l0).bind fun t239 => (if t239 = true then ((span_Check.f k l1).bind fun t240 => (wigwaglaw07_SpanHolds.j0 k l0 l1 a3 t236 (!t240) a2_0 a2_1)) else (wigwaglaw07_SpanHolds.j0 k l0 l1 a3 t236 true a2_0 a2_1))) else (wigwaglaw07_SpanHolds.j0 k l0 l1 a3 t236 true a2_0 a2_1))) = some r:=by rw [if_pos rfl] at H;exact H
   clear H
   have H:=H1
   clear H1
   replace H:=Option.bind_eq_some_iff.mp H
   obtain ⟨t238,A110,H⟩:=H
   replace H : (if t238 = true then ((span_Check.f k l0).bind fun t239 => (if t239 = true then ((span_Check.f k l1).bind fun t240 => (wigwaglaw07_SpanHolds.j0 k l0 l1 a3 t236 (!t240) a2_0 a2_1)) else (wigwaglaw07_SpanHolds.j0 k l0 l1 a3 t236 true a2_0 a2_1))) else (wigwaglaw07_SpanHolds.j0 k l0 l1 a3 t236 true a2_0 a2_1)) = some r:=H
   have A11:=Aside0.mk A110
   clear A110
   by_cases c12 : t238 = true
   ·subst c12
    have H1 : ((span_Check.f k l0).bind fun t239 => (if t239 = true then ((span_Check.f k l1).bind fun t240 => (wigwaglaw07_SpanHolds.j0 k l0 l1 a3 t236 (!t240) a2_0 a2_1)) else (wigwaglaw07_SpanHolds.j0 k l0 l1 a3 t236 true a2_0 a2_1))) = some r:=by rw [if_pos rfl] at H;exact H
    clear H
    have H:=H1
    clear H1
    replace H:=Option.bind_eq_some_iff.mp H
    obtain ⟨t239,A130,H⟩:=H
    replace H : (if t239 = true then ((span_Check.f k l1).bind fun t240 => (wigwaglaw07_SpanHolds.j0 k l0 l1 a3 t236 (!t240) a2_0 a2_1)) else (wigwaglaw07_SpanHolds.j0 k l0 l1 a3 t236 true a2_0 a2_1)) = some r:=H
    have A13:=Aside0.mk A130
    clear A130
    by_cases c14 : t239 = true
    ·subst c14
     have H1 : ((span_Check.f k l1).bind fun t240 => (wigwaglaw07_SpanHolds.j0 k l0 l1 a3 t236 (!t240) a2_0 a2_1)) = some r:=by rw [if_pos rfl] at H;exact H
     clear H
     have H:=H1
     clear H1
     replace H:=Option.bind_eq_some_iff.mp H
     obtain ⟨t240,A150,H⟩:=H
     replace H : (wigwaglaw07_SpanHolds.j0 k l0 l1 a3 t236 (!t240) a2_0 a2_1) = some r:=H
     have A15:=Aside0.mk A150
     clear A150
     have H':=Aside0.mk H
     clear H
     go_wp2_with (first | ((with_reducible refine gate_callee (f:=11) rfl ?_);refine goesL_ (some 19) rfl rfl Try.func11 (by kernel_rfl) rfl #[.slice A0 l0.length c0] rfl (by (try simp only [List.map_toArray,List.map_cons,List.map_nil]);first | done | rfl | (simp only [List.length_drop,List.length_take];rfl)) ?_;(with_reducible refine (wigwaglaw07_few.calls _ _ l0 true _ ?side1 ?side2 A9.out).mono ?_);(case side1 => repeat (first | exact (Kd.C_below HR0.out HB.out) | (with_reducible refine Kd.C_alloc ?_ _) | (with_reducible refine Kd.C_drewN ?_ _) | (with_reducible refine Kd.C_drew ?_)));(case side2 => exact HC0.out);rintro e w' ⟨rfl,⟨nd,rfl⟩⟩;refine ⟨_,rfl,?_⟩) | (go_at_call 11;(with_reducible refine (wigwaglaw07_few.calls _ _ l1 true _ ?side1 ?side2 A11.out).mono ?_);(case side1 => repeat (first | exact (Kd.C_below HR1.out (by repeat (first | (with_reducible first | exact HB.out | apply below_alloc | apply pw_below_drewN | apply below_drew1 | refine below_set ?_ GE235.out) | exact HB.out))) | (with_reducible refine Kd.C_alloc ?_ _) | (with_reducible refine Kd.C_drewN ?_ _) | (with_reducible refine Kd.C_drew ?_)));(case side2 => exact HC1.out);rintro e w' ⟨rfl,⟨nd,rfl⟩⟩) | (go_at_call 12;(with_reducible refine (span_Check.calls k _ _ l0 true _ ?side1 ?side2 A13.out).mono ?_);(case side1 => repeat (first | exact (Kd.C_below HR0.out (by repeat (first | (with_reducible first | exact HB.out | apply below_alloc | apply pw_below_drewN | apply below_drew1 | refine below_set ?_ GE235.out) | exact HB.out))) | (with_reducible refine Kd.C_alloc ?_ _) | (with_reducible refine Kd.C_drewN ?_ _) | (with_reducible refine Kd.C_drew ?_)));(case side2 => exact HC0.out);rintro e w16 ⟨rfl,hb⟩;have n0_:=Aside0.mk (blk_below (g:=gb235) (o:=.cells #[.int .u64 a2_0,.int .u64 a2_1] 25 (0,0)) (by (with_reducible repeat (first | refine blk_drewN ?_ _ | refine blk_drew ?_ | refine blk_alloc ?_ _));exact BK235.out) hb);have n1_:=Aside0.mk (below_step (by repeat (first | (with_reducible first | exact HB.out | apply below_alloc | apply pw_below_drewN | apply below_drew1 | refine below_set ?_ GE235.out) | exact HB.out)) hb);clear BK235;clear HB;have BK235:=n0_;have HB:=n1_;clear n0_ n1_;(try clear hb);(try clear hb2);(try clear hk);(try clear hi)) | (go_at_call 12;(with_reducible refine (span_Check.calls k _ _ l1 t240 _ ?side1 ?side2 A15.out).mono ?_);(case side1 => repeat (first | exact (Kd.C_below HR1.out HB.out) | (with_reducible refine Kd.C_alloc ?_ _) | (with_reducible refine Kd.C_drewN ?_ _) | (with_reducible refine Kd.C_drew ?_)));(case side2 => exact HC1.out);rintro e w17 ⟨rfl,hb⟩;have n0_:=Aside0.mk (blk_below (g:=gb235) (o:=.cells #[.int .u64 a2_0,.int .u64 a2_1] 25 (0,0)) (by (with_reducible repeat (first | refine blk_drewN ?_ _ | refine blk_drew ?_ | refine blk_alloc ?_ _));exact BK235.out) hb);have n1_:=Aside0.mk (below_step (by repeat (first | (with_reducible first | exact HB.out | apply below_alloc | apply pw_below_drewN | apply below_drew1 | refine below_set ?_ GE235.out) | exact HB.out)) hb);clear BK235;clear HB;have BK235:=n0_;have HB:=n1_;clear n0_ n1_;(try clear hb);(try clear hb2);(try clear hk);(try clear hi)))
     go_meet
     case rel => exact ⟨_,(!t240),(by first | rfl | (simp;done) | (simp [*];done)),H',⟨by first | omega | exact Nat.le_refl _⟩,⟨by (with_reducible repeat (first | refine blk_drewN ?_ _ | refine blk_drew ?_ | refine blk_alloc ?_ _));exact BK235.out⟩,⟨by repeat (first | (with_reducible first | exact HB.out | apply below_alloc | apply pw_below_drewN | apply below_drew1 | refine below_set ?_ GE235.out) | exact HB.out)⟩⟩
    ·replace c14:=Bool.eq_false_iff.mpr c14
     subst c14
     have H1 : (wigwaglaw07_SpanHolds.j0 k l0 l1 a3 t236 true a2_0 a2_1) = some r:=by rw [if_neg (show ¬ (false = true) by decide)] at H;exact H
     clear H
     have H:=H1
     clear H1
     have H':=Aside0.mk H
     clear H
     go_wp2_with (first | ((with_reducible refine gate_callee (f:=11) rfl ?_);refine goesL_ (some 19) rfl rfl Try.func11 (by kernel_rfl) rfl #[.slice A0 l0.length c0] rfl (by (try simp only [List.map_toArray,List.map_cons,List.map_nil]);first | done | rfl | (simp only [List.length_drop,List.length_take];rfl)) ?_;(with_reducible refine (wigwaglaw07_few.calls _ _ l0 true _ ?side1 ?side2 A9.out).mono ?_);(case side1 => repeat (first | exact (Kd.C_below HR0.out HB.out) | (with_reducible refine Kd.C_alloc ?_ _) | (with_reducible refine Kd.C_drewN ?_ _) | (with_reducible refine Kd.C_drew ?_)));(case side2 => exact HC0.out);rintro e w' ⟨rfl,⟨nd,rfl⟩⟩;refine ⟨_,rfl,?_⟩) | (go_at_call 11;(with_reducible refine (wigwaglaw07_few.calls _ _ l1 true _ ?side1 ?side2 A11.out).mono ?_);(case side1 => repeat (first | exact (Kd.C_below HR1.out (by repeat (first | (with_reducible first | exact HB.out | apply below_alloc | apply pw_below_drewN | apply below_drew1 | refine below_set ?_ GE235.out) | exact HB.out))) | (with_reducible refine Kd.C_alloc ?_ _) | (with_reducible refine Kd.C_drewN ?_ _) | (with_reducible refine Kd.C_drew ?_)));(case side2 => exact HC1.out);rintro e w' ⟨rfl,⟨nd,rfl⟩⟩) | (go_at_call 12;(with_reducible refine (span_Check.calls k _ _ l0 false _ ?side1 ?side2 A13.out).mono ?_);(case side1 => repeat (first | exact (Kd.C_below HR0.out (by repeat (first | (with_reducible first | exact HB.out | apply below_alloc | apply pw_below_drewN | apply below_drew1 | refine below_set ?_ GE235.out) | exact HB.out))) | (with_reducible refine Kd.C_alloc ?_ _) | (with_reducible refine Kd.C_drewN ?_ _) | (with_reducible refine Kd.C_drew ?_)));(case side2 => exact HC0.out);rintro e w18 ⟨rfl,hb⟩;have n0_:=Aside0.mk (blk_below (g:=gb235) (o:=.cells #[.int .u64 a2_0,.int .u64 a2_1] 25 (0,0)) (by (with_reducible repeat (first | refine blk_drewN ?_ _ | refine blk_drew ?_ | refine blk_alloc ?_ _));exact BK235.out) hb);have n1_:=Aside0.mk (below_step (by repeat (first | (with_reducible first | exact HB.out | apply below_alloc | apply pw_below_drewN | apply below_drew1 | refine below_set ?_ GE235.out) | exact HB.out)) hb);clear BK235;clear HB;have BK235:=n0_;have HB:=n1_;clear n0_ n1_;(try clear hb);(try clear hb2);(try clear hk);(try clear hi)))
     go_meet
     case rel => exact ⟨_,(true),(by first | rfl | (simp;done) | (simp [*];done)),H',⟨by first | omega | exact Nat.le_refl _⟩,⟨by (with_reducible repeat (first | refine blk_drewN ?_ _ | refine blk_drew ?_ | refine blk_alloc ?_ _));exact BK235.out⟩,⟨by repeat (first | (with_reducible first | exact HB.out | apply below_alloc | apply pw_below_drewN | apply below_drew1 | refine below_set ?_ GE235.out) | exact HB.out)⟩⟩
   ·replace c12:=Bool.eq_false_iff.mpr c12
    subst c12
    have H1 : (wigwaglaw07_SpanHolds.j0 k l0 l1 a3 t236 true a2_0 a2_1) = some r:=by rw [if_neg (show ¬ (false = true) by decide)] at H;exact H
    clear H
    have H:=H1
    clear H1
    have H':=Aside0.mk H
    clear H
    go_wp2_with (first | ((with_reducible refine gate_callee (f:=11) rfl ?_);refine goesL_ (some 19) rfl rfl Try.func11 (by kernel_rfl) rfl #[.slice A0 l0.length c0] rfl (by (try simp only [List.map_toArray,List.map_cons,List.map_nil]);first | done | rfl | (simp only [List.length_drop,List.length_take];rfl)) ?_;(with_reducible refine (wigwaglaw07_few.calls _ _ l0 true _ ?side1 ?side2 A9.out).mono ?_);(case side1 => repeat (first | exact (Kd.C_below HR0.out HB.out) | (with_reducible refine Kd.C_alloc ?_ _) | (with_reducible refine Kd.C_drewN ?_ _) | (with_reducible refine Kd.C_drew ?_)));(case side2 => exact HC0.out);rintro e w' ⟨rfl,⟨nd,rfl⟩⟩;refine ⟨_,rfl,?_⟩) | (go_at_call 11;(with_reducible refine (wigwaglaw07_few.calls _ _ l1 false _ ?side1 ?side2 A11.out).mono ?_);(case side1 => repeat (first | exact (Kd.C_below HR1.out (by repeat (first | (with_reducible first | exact HB.out | apply below_alloc | apply pw_below_drewN | apply below_drew1 | refine below_set ?_ GE235.out) | exact HB.out))) | (with_reducible refine Kd.C_alloc ?_ _) | (with_reducible refine Kd.C_drewN ?_ _) | (with_reducible refine Kd.C_drew ?_)));(case side2 => exact HC1.out);rintro e w' ⟨rfl,⟨nd,rfl⟩⟩))
    go_meet
    case rel => exact ⟨_,(true),(by first | rfl | (simp;done) | (simp [*];done)),H',⟨by first | omega | exact Nat.le_refl _⟩,⟨by (with_reducible repeat (first | refine blk_drewN ?_ _ | refine blk_drew ?_ | refine blk_alloc ?_ _));exact BK235.out⟩,⟨by repeat (first | (with_reducible first | exact HB.out | apply below_alloc | apply pw_below_drewN | apply below_drew1 | refine below_set ?_ GE235.out) | exact HB.out)⟩⟩
  ·replace c10:=Bool.eq_false_iff.mpr c10
   subst c10
   have H1 : (wigwaglaw07_SpanHolds.j0 k l0 l1 a3 t236 true a2_0 a2_1) = some r:=by rw [if_neg (show ¬ (false = true) by decide)] at H;exact H
   clear H
   have H:=H1
   clear H1
   have H':=Aside0.mk H
   clear H
   go_wp2_with (first | ((with_reducible refine gate_callee (f:=11) rfl ?_);refine goesL_ (some 19) rfl rfl Try.func11 (by kernel_rfl) rfl #[.slice A0 l0.length c0] rfl (by (try simp only [List.map_toArray,List.map_cons,List.map_nil]);first | done | rfl | (simp only [List.length_drop,List.length_take];rfl)) ?_;(with_reducible refine (wigwaglaw07_few.calls _ _ l0 false _ ?side1 ?side2 A9.out).mono ?_);(case side1 => repeat (first | exact (Kd.C_below HR0.out HB.out) | (with_reducible refine Kd.C_alloc ?_ _) | (with_reducible refine Kd.C_drewN ?_ _) | (with_reducible refine Kd.C_drew ?_)));(case side2 => exact HC0.out);rintro e w' ⟨rfl,⟨nd,rfl⟩⟩;refine ⟨_,rfl,?_⟩))
   go_meet
   case rel => exact ⟨_,(true),(by first | rfl | (simp;done) | (simp [*];done)),H',⟨by first | omega | exact Nat.le_refl _⟩,⟨by (with_reducible repeat (first | refine blk_drewN ?_ _ | refine blk_drew ?_ | refine blk_alloc ?_ _));exact BK235.out⟩,⟨by repeat (first | (with_reducible first | exact HB.out | apply below_alloc | apply pw_below_drewN | apply below_drew1 | refine below_set ?_ GE235.out) | exact HB.out)⟩⟩
 case rest =>
  clear HC6
  try clear c1
  try clear p2
  try clear c4
  try clear c10
  try clear c11
  try clear c12
  try clear c14
  obtain ⟨kq,x35_5,rfl,HA,HJ5,BK235,HB⟩:=hcut
  cases kq with
  | zero => exact absurd HA.out (by simp [wigwaglaw07_SpanHolds.j0])
  | succ kj5 =>
   have H:=HA.out
   clear HA
   simp only [wigwaglaw07_SpanHolds.j0] at H
   by_cases c19 : x35_5 = true
   ·subst c19
    have H1 : (some t236) = some r:=by rw [if_pos rfl] at H;exact H
    clear H
    have H:=H1
    clear H1
    obtain rfl:=Option.some.inj H
    go_wp2
    go_ret
    exact ⟨by first | rfl | (simp [errW_none,errW_some] <;> rfl) | (simp [*,errW_none,errW_some] <;> rfl),by repeat (first | (with_reducible first | exact HB.out | apply below_alloc | apply pw_below_drewN | apply below_drew1 | refine below_set ?_ GE235.out) | exact HB.out)⟩
   ·replace c19:=Bool.eq_false_iff.mpr c19
    subst c19
    have H1 : (if a3 ≥ a2_0 then (wigwaglaw07_SpanHolds.j1 kj5 l0 l1 a3 t236 (decide (a3 < a2_1)) a2_0 a2_1) else (wigwaglaw07_SpanHolds.j1 kj5 l0 l1 a3 t236 false a2_0 a2_1)) = some r:=by rw [if_neg (show ¬ (false = true) by decide)] at H;exact H
    clear H
    have H:=H1
    clear H1
    have HC20:=Aside0.mk H
    clear H
    go_upto_region 4 with (fail)
    go_cut [10] (fun v10 wc => ∃ (kq : Nat) (x10_19 : Bool),v10 = .bool x10_19 ∧ Aside0 (wigwaglaw07_SpanHolds.j1 kq l0 l1 a3 t236 x10_19 a2_0 a2_1 = some r) ∧ Aside0 (kq ≤ kj5) ∧ Aside0 (wc.heap[gb235]? = some (.cells #[.int .u64 a2_0,.int .u64 a2_1] 25 (0,0))) ∧ Aside0 (Below w.heap.size w wc))
    case first =>
     have H:=HC20.out
     clear HC20
     by_cases c21 : a3 ≥ a2_0
     ·rw [if_pos c21] at H
      have c21b0 : decide (a2_0 ≤ a3) = true:=decide_eq_true c21
      clear c21
      (first | rw [c21b0] | (simp only [i64_w,i32_w];rw [c21b0]) | skip)
      have H':=Aside0.mk H
      clear H
      have hcz22_0 : wc.cell? ⟨gb235,0,none⟩ = some (.int .u64 a2_0):=(blk_cell BK235.out 0).trans rfl
      have hcz22_1 : wc.cell? ⟨gb235,1,none⟩ = some (.int .u64 a2_1):=(blk_cell BK235.out 1).trans rfl
      have hfz22_0:=blk_frozen BK235.out 0
      have hfz22_1:=blk_frozen BK235.out 1
      go_wp2
      go_meet
      case rel => exact ⟨_,(decide (a3 < a2_1)),(by first | rfl | (simp;done) | (simp [*];done)),H',⟨by have:=HJ5.out;first | omega | exact Nat.le_refl _⟩,⟨by (with_reducible repeat (first | refine blk_drewN ?_ _ | refine blk_drew ?_ | refine blk_alloc ?_ _));exact BK235.out⟩,⟨by repeat (first | (with_reducible first | exact HB.out | apply below_alloc | apply pw_below_drewN | apply below_drew1 | refine below_set ?_ GE235.out) | exact HB.out)⟩⟩
     ·rw [if_neg c21] at H
      have c21b0 : decide (a2_0 ≤ a3) = false:=decide_eq_false c21
      clear c21
      (first | rw [c21b0] | (simp only [i64_w,i32_w];rw [c21b0]) | skip)
      have H':=Aside0.mk H
      clear H
      have hcz23_0 : wc.cell? ⟨gb235,0,none⟩ = some (.int .u64 a2_0):=(blk_cell BK235.out 0).trans rfl
      have hcz23_1 : wc.cell? ⟨gb235,1,none⟩ = some (.int .u64 a2_1):=(blk_cell BK235.out 1).trans rfl
      have hfz23_0:=blk_frozen BK235.out 0
      have hfz23_1:=blk_frozen BK235.out 1
      go_wp2
      go_meet
      case rel => exact ⟨_,(false),(by first | rfl | (simp;done) | (simp [*];done)),H',⟨by have:=HJ5.out;first | omega | exact Nat.le_refl _⟩,⟨by (with_reducible repeat (first | refine blk_drewN ?_ _ | refine blk_drew ?_ | refine blk_alloc ?_ _));exact BK235.out⟩,⟨by repeat (first | (with_reducible first | exact HB.out | apply below_alloc | apply pw_below_drewN | apply below_drew1 | refine below_set ?_ GE235.out) | exact HB.out)⟩⟩
    case rest =>
     clear HC20
     try clear c1
     try clear c2
     try clear p2
     try clear c4
     try clear c10
     try clear c11
     try clear c12
     try clear c14
     try clear c19
     try clear c21
     try clear c21b0
     try clear hcz22_0
     try clear hcz22_1
     try clear hcz23_0
     try clear hcz23_1
     try clear hfz22_0
     try clear hfz22_1
     try clear hfz23_0
     try clear hfz23_1
     try clear p2
     obtain ⟨kq,x10_19,rfl,HA,HJ19,BK235,HB⟩:=hcut
     cases kq with
     | zero => exact absurd HA.out (by simp [wigwaglaw07_SpanHolds.j1])
     | succ kj19 =>
      have H:=HA.out
      clear HA
      simp only [wigwaglaw07_SpanHolds.j1] at H
      replace H:=Option.bind_eq_some_iff.mp H
      obtain ⟨t241,A240,H⟩:=H
      replace H : ((span_Cut.f l0 a2_0 a2_1).bind fun t244 => ((span_Both.f kj19 l0 l1).bind fun t247 => ((span_Has.f kj19 t241 a3).bind fun t250 => ((span_Has.f kj19 l0 a3).bind fun t251 => (if t251 = true then (wigwaglaw07_SpanHolds.j2 kj19 l0 l1 a3 t236 x10_19 t241 t244 t247 (t250 == true)) else (wigwaglaw07_SpanHolds.j2 kj19 l0 l1 a3 t236 x10_19 t241 t244 t247 (t250 == x10_19))))))) = some r:=H
      have A24:=Aside0.mk A240
      clear A240
      replace H:=Option.bind_eq_some_iff.mp H
      obtain ⟨t244,A250,H⟩:=H
      replace H : ((span_Both.f kj19 l0 l1).bind fun t247 => ((span_Has.f kj19 t241 a3).bind fun t250 => ((span_Has.f kj19 l0 a3).bind fun t251 => (if t251 = true then (wigwaglaw07_SpanHolds.j2 kj19 l0 l1 a3 t236 x10_19 t241 t244 t247 (t250 == true)) else (wigwaglaw07_SpanHolds.j2 kj19 l0 l1 a3 t236 x10_19 t241 t244 t247 (t250 == x10_19)))))) = some r:=H
      have A25:=Aside0.mk A250
      clear A250
      replace H:=Option.bind_eq_some_iff.mp H
      obtain ⟨t247,A260,H⟩:=H
      replace H : ((span_Has.f kj19 t241 a3).bind fun t250 => ((span_Has.f kj19 l0 a3).bind fun t251 => (if t251 = true then (wigwaglaw07_SpanHolds.j2 kj19 l0 l1 a3 t236 x10_19 t241 t244 t247 (t250 == true)) else (wigwaglaw07_SpanHolds.j2 kj19 l0 l1 a3 t236 x10_19 t241 t244 t247 (t250 == x10_19))))) = some r:=H
      have A26:=Aside0.mk A260
      clear A260
      have HC27:=Aside0.mk H
      clear H
      have hcz28_0 : wc.cell? ⟨gb235,0,none⟩ = some (.int .u64 a2_0):=(blk_cell BK235.out 0).trans rfl
      have hcz28_1 : wc.cell? ⟨gb235,1,none⟩ = some (.int .u64 a2_1):=(blk_cell BK235.out 1).trans rfl
      have hfz28_0:=blk_frozen BK235.out 0
      have hfz28_1:=blk_frozen BK235.out 1
      go_upto_region 8 with (first | ((with_reducible refine gate_callee (f:=17) rfl ?_);refine goesL_ (some 49) rfl rfl Try.func17 (by kernel_rfl) rfl #[.slice A0 l0.length c0,.agg #[.int .u64 a2_0,.int .u64 a2_1]] rfl (by (try simp only [List.map_toArray,List.map_cons,List.map_nil]);first | done | rfl | (simp only [List.length_drop,List.length_take];rfl)) ?_;(with_reducible refine (span_Add.calls kj19 _ _ l0 a2_0 a2_1 t241 _ ?side1 ?side2 A24.out).mono ?_);(case side1 => repeat (first | exact (Kd.C_below HR0.out HB.out) | (with_reducible refine Kd.C_alloc ?_ _) | (with_reducible refine Kd.C_drewN ?_ _) | (with_reducible refine Kd.C_drew ?_)));(case side2 => exact HC0.out);rintro e w29 ⟨v242,rfl,ho0,hb⟩;refine ⟨_,rfl,?_⟩;have n0_:=Aside0.mk (Kd.R_lower (Kd.R_newB ho0 (g:=gb235) (o:=.cells #[.int .u64 a2_0,.int .u64 a2_1] 25 (0,0)) (by (with_reducible repeat (first | refine blk_drewN ?_ _ | refine blk_drew ?_ | refine blk_alloc ?_ _));exact BK235.out)) (below_size (by repeat (first | (with_reducible first | exact HB.out | apply below_alloc | apply pw_below_drewN | apply below_drew1 | refine below_set ?_ GE235.out) | exact HB.out))));have n1_:=Aside0.mk (blk_below (g:=gb235) (o:=.cells #[.int .u64 a2_0,.int .u64 a2_1] 25 (0,0)) (by (with_reducible repeat (first | refine blk_drewN ?_ _ | refine blk_drew ?_ | refine blk_alloc ?_ _));exact BK235.out) hb);have n2_:=Aside0.mk (below_step (by repeat (first | (with_reducible first | exact HB.out | apply below_alloc | apply pw_below_drewN | apply below_drew1 | refine below_set ?_ GE235.out) | exact HB.out)) hb);clear BK235;clear HB;have HO243:=n0_;have BK235:=n1_;have HB:=n2_;clear n0_ n1_ n2_;(try clear hb);(try clear hb2);(try clear hk);(try clear hi);(try clear ho0);have hcz30_0 : w29.cell? ⟨gb235,0,none⟩ = some (.int .u64 a2_0):=(blk_cell BK235.out 0).trans rfl;have hcz30_1 : w29.cell? ⟨gb235,1,none⟩ = some (.int .u64 a2_1):=(blk_cell BK235.out 1).trans rfl;have hfz30_0:=blk_frozen BK235.out 0;have hfz30_1:=blk_frozen BK235.out 1) | ((with_reducible refine gate_callee (f:=19) rfl ?_);refine goesL_ (some 52) rfl rfl Try.func19 (by kernel_rfl) rfl #[.slice A0 l0.length c0,.agg #[.int .u64 a2_0,.int .u64 a2_1]] rfl (by (try simp only [List.map_toArray,List.map_cons,List.map_nil]);first | done | rfl | (simp only [List.length_drop,List.length_take];rfl)) ?_;(with_reducible refine (span_Cut.calls _ _ l0 a2_0 a2_1 t244 _ ?side1 ?side2 A25.out).mono ?_);(case side1 => repeat (first | exact (Kd.C_below HR0.out HB.out) | (with_reducible refine Kd.C_alloc ?_ _) | (with_reducible refine Kd.C_drewN ?_ _) | (with_reducible refine Kd.C_drew ?_)));(case side2 => exact HC0.out);rintro e w31 ⟨v245,rfl,ho0,hb⟩;refine ⟨_,rfl,?_⟩;have n0_:=Aside0.mk (Kd.R_elder' (by (with_reducible repeat (first | apply Kd.R_alloc | apply Kd.R_drewN | apply Kd.R_drew));exact HO243.out) (Kd.R_base ho0) hb);have n1_:=Aside0.mk (Kd.R_lower (Kd.R_newB (Kd.R_new' ho0 (Kd.R_lt (by (with_reducible repeat (first | apply Kd.R_alloc | apply Kd.R_drewN | apply Kd.R_drew));exact HO243.out))) (g:=gb235) (o:=.cells #[.int .u64 a2_0,.int .u64 a2_1] 25 (0,0)) (by (with_reducible repeat (first | refine blk_drewN ?_ _ | refine blk_drew ?_ | refine blk_alloc ?_ _));exact BK235.out)) (below_size (by repeat (first | (with_reducible first | exact HB.out | apply below_alloc | apply pw_below_drewN | apply below_drew1 | refine below_set ?_ GE235.out) | exact HB.out))));have n2_:=Aside0.mk (blk_below (g:=gb235) (o:=.cells #[.int .u64 a2_0,.int .u64 a2_1] 25 (0,0)) (by (with_reducible repeat (first | refine blk_drewN ?_ _ | refine blk_drew ?_ | refine blk_alloc ?_ _));exact BK235.out) hb);have n3_:=Aside0.mk (below_step (by repeat (first | (with_reducible first | exact HB.out | apply below_alloc | apply pw_below_drewN | apply below_drew1 | refine below_set ?_ GE235.out) | exact HB.out)) hb);clear HO243;clear BK235;clear HB;have HO243:=n0_;have HO246:=n1_;have BK235:=n2_;have HB:=n3_;clear n0_ n1_ n2_ n3_;(try clear hb);(try clear hb2);(try clear hk);(try clear hi);(try clear ho0)) | ((with_reducible refine gate_callee (f:=21) rfl ?_);refine goesL_ (some 55) rfl rfl Try.func21 (by kernel_rfl) rfl #[.slice A0 l0.length c0,.slice A1 l1.length c1] rfl (by (try simp only [List.map_toArray,List.map_cons,List.map_nil]);first | done | rfl | (simp only [List.length_drop,List.length_take];rfl)) ?_;(with_reducible refine (span_Both.calls kj19 (fun k_ => k_ < w.heap.size) _ _ l0 (fun k_ => k_ < w.heap.size) _ _ l1 t247 _ ?side1 ?side2 A26.out).mono ?_);(case side1 => exact Kd.V_mk HC0.out (Kd.F_below (Kd.C_F k25_heap HR0.out) (by repeat (first | (with_reducible first | exact HB.out | apply below_alloc | apply pw_below_drewN | apply below_drew1 | refine below_set ?_ GE235.out) | exact HB.out))));(case side2 => exact Kd.V_mk HC1.out (Kd.F_below (Kd.C_F k25_heap HR1.out) (by repeat (first | (with_reducible first | exact HB.out | apply below_alloc | apply pw_below_drewN | apply below_drew1 | refine below_set ?_ GE235.out) | exact HB.out))));rintro e w32 ⟨v248,rfl,ho0,hb⟩;refine ⟨_,rfl,?_⟩;have n0_:=Aside0.mk (Kd.R_elder' (by (with_reducible repeat (first | apply Kd.R_alloc | apply Kd.R_drewN | apply Kd.R_drew));exact HO243.out) (Kd.R_base ho0) hb);have n1_:=Aside0.mk (Kd.R_elder' (by (with_reducible repeat (first | apply Kd.R_alloc | apply Kd.R_drewN | apply Kd.R_drew));exact HO246.out) (Kd.R_base ho0) hb);have n2_:=Aside0.mk (Kd.R_lower (Kd.R_newB (Kd.R_new' (Kd.R_new' (Kd.R_mono (ok':=fun k_ => True) ho0 (fun _ hk_ => trivial)) (Kd.R_lt (by (with_reducible repeat (first | apply Kd.R_alloc | apply Kd.R_drewN | apply Kd.R_drew));exact HO243.out))) (Kd.R_lt (by (with_reducible repeat (first | apply Kd.R_alloc | apply Kd.R_drewN | apply Kd.R_drew));exact HO246.out))) (g:=gb235) (o:=.cells #[.int .u64 a2_0,.int .u64 a2_1] 25 (0,0)) (by (with_reducible repeat (first | refine blk_drewN ?_ _ | refine blk_drew ?_ | refine blk_alloc ?_ _));exact BK235.out)) (below_size (by repeat (first | (with_reducible first | exact HB.out | apply below_alloc | apply pw_below_drewN | apply below_drew1 | refine below_set ?_ GE235.out) | exact HB.out))));have n3_:=Aside0.mk (blk_below (g:=gb235) (o:=.cells #[.int .u64 a2_0,.int .u64 a2_1] 25 (0,0)) (by (with_reducible repeat (first | refine blk_drewN ?_ _ | refine blk_drew ?_ | refine blk_alloc ?_ _));exact BK235.out) hb);have n4_:=Aside0.mk (below_step (by repeat (first | (with_reducible first | exact HB.out | apply below_alloc | apply pw_below_drewN | apply below_drew1 | refine below_set ?_ GE235.out) | exact HB.out)) hb);clear HO243;clear HO246;clear BK235;clear HB;have HO243:=n0_;have HO246:=n1_;have HO249:=n2_;have BK235:=n3_;have HB:=n4_;clear n0_ n1_ n2_ n3_ n4_;(try clear hb);(try clear hb2);(try clear hk);(try clear hi);(try clear ho0)))
      (try simp only [Act.put,List.setIfInBounds_toArray,List.set_cons_zero,List.set_cons_succ])
      go_cut [14] (fun v14 wc => ∃ (kq : Nat) (x14_26 : Bool),v14 = .bool x14_26 ∧ Aside0 (wigwaglaw07_SpanHolds.j2 kq l0 l1 a3 t236 x10_19 t241 t244 t247 x14_26 = some r) ∧ Aside0 (kq ≤ kj19) ∧ Aside0 (Kd.R k25 25 wc w.heap.size (fun k_ => some k_ ≠ (v245 : Value).ownBlock ∧ some k_ ≠ (v248 : Value).ownBlock ∧ k_ ≠ gb235) v242 t241) ∧ Aside0 (Kd.R k25 25 wc w.heap.size (fun k_ => some k_ ≠ (v242 : Value).ownBlock ∧ some k_ ≠ (v248 : Value).ownBlock ∧ k_ ≠ gb235) v245 t244) ∧ Aside0 (Kd.R k25 25 wc w.heap.size (fun k_ => some k_ ≠ (v242 : Value).ownBlock ∧ some k_ ≠ (v245 : Value).ownBlock ∧ k_ ≠ gb235) v248 t247) ∧ Aside0 (wc.heap[gb235]? = some (.cells #[.int .u64 a2_0,.int .u64 a2_1] 25 (0,0))) ∧ Aside0 (Below w.heap.size w wc))
      case first =>
       have H:=HC27.out
       clear HC27
       replace H:=Option.bind_eq_some_iff.mp H
       obtain ⟨t250,A330,H⟩:=H
       replace H : ((span_Has.f kj19 l0 a3).bind fun t251 => (if t251 = true then (wigwaglaw07_SpanHolds.j2 kj19 l0 l1 a3 t236 x10_19 t241 t244 t247 (t250 == true)) else (wigwaglaw07_SpanHolds.j2 kj19 l0 l1 a3 t236 x10_19 t241 t244 t247 (t250 == x10_19)))) = some r:=H
       have A33:=Aside0.mk A330
       clear A330
       replace H:=Option.bind_eq_some_iff.mp H
       obtain ⟨t251,A340,H⟩:=H
       replace H : (if t251 = true then (wigwaglaw07_SpanHolds.j2 kj19 l0 l1 a3 t236 x10_19 t241 t244 t247 (t250 == true)) else (wigwaglaw07_SpanHolds.j2 kj19 l0 l1 a3 t236 x10_19 t241 t244 t247 (t250 == x10_19))) = some r:=H
       have A34:=Aside0.mk A340
       clear A340
       by_cases c35 : t251 = true
       ·subst c35
        have H1 : (wigwaglaw07_SpanHolds.j2 kj19 l0 l1 a3 t236 x10_19 t241 t244 t247 (t250 == true)) = some r:=by rw [if_pos rfl] at H;exact H
        clear H
        have H:=H1
        clear H1
        have H':=Aside0.mk H
        clear H
        obtain ⟨Ao36,co36,eo36⟩:=Kd.R_slice HO243.out
        subst eo36
        go_wp2_with (first | ((with_reducible refine gate_callee (f:=14) rfl ?_);refine goesL_ (some 58) rfl rfl Try.func14 (by kernel_rfl) rfl #[.slice Ao36 t241.length co36,.int .u64 a3] rfl (by (try simp only [List.map_toArray,List.map_cons,List.map_nil]);first | done | rfl | (simp only [List.length_drop,List.length_take];rfl)) ?_;(with_reducible refine (span_Has.calls kj19 _ _ t241 a3 t250 _ ?side1 ?side2 A33.out).mono ?_);(case side1 => repeat (first | exact (Kd.R_reads' HO243.out).2.2 | (with_reducible refine Kd.C_alloc ?_ _) | (with_reducible refine Kd.C_drewN ?_ _) | (with_reducible refine Kd.C_drew ?_)));(case side2 => exact (Kd.R_reads' HO243.out).2.1);rintro e w37 ⟨rfl,hb⟩;refine ⟨_,rfl,?_⟩;have n0_:=Aside0.mk (Kd.R_below (by (with_reducible repeat (first | apply Kd.R_alloc | apply Kd.R_drewN | apply Kd.R_drew));exact HO243.out) hb);have n1_:=Aside0.mk (Kd.R_below (by (with_reducible repeat (first | apply Kd.R_alloc | apply Kd.R_drewN | apply Kd.R_drew));exact HO246.out) hb);have n2_:=Aside0.mk (Kd.R_below (by (with_reducible repeat (first | apply Kd.R_alloc | apply Kd.R_drewN | apply Kd.R_drew));exact HO249.out) hb);have n3_:=Aside0.mk (blk_below (g:=gb235) (o:=.cells #[.int .u64 a2_0,.int .u64 a2_1] 25 (0,0)) (by (with_reducible repeat (first | refine blk_drewN ?_ _ | refine blk_drew ?_ | refine blk_alloc ?_ _));exact BK235.out) hb);have n4_:=Aside0.mk (below_step (by repeat (first | (with_reducible first | exact HB.out | apply below_alloc | apply pw_below_drewN | apply below_drew1 | refine below_set ?_ GE235.out) | exact HB.out)) hb);clear HO243;clear HO246;clear HO249;clear BK235;clear HB;have HO243:=n0_;have HO246:=n1_;have HO249:=n2_;have BK235:=n3_;have HB:=n4_;clear n0_ n1_ n2_ n3_ n4_;(try clear hb);(try clear hb2);(try clear hk);(try clear hi)) | ((with_reducible refine gate_callee (f:=14) rfl ?_);refine goesL_ (some 61) rfl rfl Try.func14 (by kernel_rfl) rfl #[.slice A0 l0.length c0,.int .u64 a3] rfl (by (try simp only [List.map_toArray,List.map_cons,List.map_nil]);first | done | rfl | (simp only [List.length_drop,List.length_take];rfl)) ?_;(with_reducible refine (span_Has.calls kj19 _ _ l0 a3 true _ ?side1 ?side2 A34.out).mono ?_);(case side1 => repeat (first | exact (Kd.C_below HR0.out HB.out) | (with_reducible refine Kd.C_alloc ?_ _) | (with_reducible refine Kd.C_drewN ?_ _) | (with_reducible refine Kd.C_drew ?_)));(case side2 => exact HC0.out);rintro e w38 ⟨rfl,hb⟩;refine ⟨_,rfl,?_⟩;have n0_:=Aside0.mk (Kd.R_below (by (with_reducible repeat (first | apply Kd.R_alloc | apply Kd.R_drewN | apply Kd.R_drew));exact HO243.out) hb);have n1_:=Aside0.mk (Kd.R_below (by (with_reducible repeat (first | apply Kd.R_alloc | apply Kd.R_drewN | apply Kd.R_drew));exact HO246.out) hb);have n2_:=Aside0.mk (Kd.R_below (by (with_reducible repeat (first | apply Kd.R_alloc | apply Kd.R_drewN | apply Kd.R_drew));exact HO249.out) hb);have n3_:=Aside0.mk (blk_below (g:=gb235) (o:=.cells #[.int .u64 a2_0,.int .u64 a2_1] 25 (0,0)) (by (with_reducible repeat (first | refine blk_drewN ?_ _ | refine blk_drew ?_ | refine blk_alloc ?_ _));exact BK235.out) hb);have n4_:=Aside0.mk (below_step (by repeat (first | (with_reducible first | exact HB.out | apply below_alloc | apply pw_below_drewN | apply below_drew1 | refine below_set ?_ GE235.out) | exact HB.out)) hb);clear HO243;clear HO246;clear HO249;clear BK235;clear HB;have HO243:=n0_;have HO246:=n1_;have HO249:=n2_;have BK235:=n3_;have HB:=n4_;clear n0_ n1_ n2_ n3_ n4_;(try clear hb);(try clear hb2);(try clear hk);(try clear hi)))
        go_meet
        case rel => exact ⟨_,((t250 == true)),(by first | rfl | (simp;done) | (simp [*];done)),H',⟨by have:=HJ5.out;have:=HJ19.out;first | omega | exact Nat.le_refl _⟩,⟨by (with_reducible repeat (first | apply Kd.R_alloc | apply Kd.R_drewN | apply Kd.R_drew));exact Kd.R_mono HO243.out (fun _ hk => ⟨hk.1.2,⟨hk.2,hk.1.1.2⟩⟩)⟩,⟨by (with_reducible repeat (first | apply Kd.R_alloc | apply Kd.R_drewN | apply Kd.R_drew));exact Kd.R_mono HO246.out (fun _ hk => ⟨hk.1.1.2,⟨hk.2,hk.1.2⟩⟩)⟩,⟨by (with_reducible repeat (first | apply Kd.R_alloc | apply Kd.R_drewN | apply Kd.R_drew));exact Kd.R_mono HO249.out (fun _ hk => ⟨hk.1.1.2,⟨hk.1.2,hk.2⟩⟩)⟩,⟨by (with_reducible repeat (first | refine blk_drewN ?_ _ | refine blk_drew ?_ | refine blk_alloc ?_ _));exact BK235.out⟩,⟨by repeat (first | (with_reducible first | exact HB.out | apply below_alloc | apply pw_below_drewN | apply below_drew1 | refine below_set ?_ GE235.out) | exact HB.out)⟩⟩
       ·replace c35:=Bool.eq_false_iff.mpr c35
        subst c35
        have H1 : (wigwaglaw07_SpanHolds.j2 kj19 l0 l1 a3 t236 x10_19 t241 t244 t247 (t250 == x10_19)) = some r:=by rw [if_neg (show ¬ (false = true) by decide)] at H;exact H
        clear H
        have H:=H1
        clear H1
        have H':=Aside0.mk H
        clear H
        obtain ⟨Ao39,co39,eo39⟩:=Kd.R_slice HO243.out
        subst eo39
        go_wp2_with (first | ((with_reducible refine gate_callee (f:=14) rfl ?_);refine goesL_ (some 58) rfl rfl Try.func14 (by kernel_rfl) rfl #[.slice Ao39 t241.length co39,.int .u64 a3] rfl (by (try simp only [List.map_toArray,List.map_cons,List.map_nil]);first | done | rfl | (simp only [List.length_drop,List.length_take];rfl)) ?_;(with_reducible refine (span_Has.calls kj19 _ _ t241 a3 t250 _ ?side1 ?side2 A33.out).mono ?_);(case side1 => repeat (first | exact (Kd.R_reads' HO243.out).2.2 | (with_reducible refine Kd.C_alloc ?_ _) | (with_reducible refine Kd.C_drewN ?_ _) | (with_reducible refine Kd.C_drew ?_)));(case side2 => exact (Kd.R_reads' HO243.out).2.1);rintro e w40 ⟨rfl,hb⟩;refine ⟨_,rfl,?_⟩;have n0_:=Aside0.mk (Kd.R_below (by (with_reducible repeat (first | apply Kd.R_alloc | apply Kd.R_drewN | apply Kd.R_drew));exact HO243.out) hb);have n1_:=Aside0.mk (Kd.R_below (by (with_reducible repeat (first | apply Kd.R_alloc | apply Kd.R_drewN | apply Kd.R_drew));exact HO246.out) hb);have n2_:=Aside0.mk (Kd.R_below (by (with_reducible repeat (first | apply Kd.R_alloc | apply Kd.R_drewN | apply Kd.R_drew));exact HO249.out) hb);have n3_:=Aside0.mk (blk_below (g:=gb235) (o:=.cells #[.int .u64 a2_0,.int .u64 a2_1] 25 (0,0)) (by (with_reducible repeat (first | refine blk_drewN ?_ _ | refine blk_drew ?_ | refine blk_alloc ?_ _));exact BK235.out) hb);have n4_:=Aside0.mk (below_step (by repeat (first | (with_reducible first | exact HB.out | apply below_alloc | apply pw_below_drewN | apply below_drew1 | refine below_set ?_ GE235.out) | exact HB.out)) hb);clear HO243;clear HO246;clear HO249;clear BK235;clear HB;have HO243:=n0_;have HO246:=n1_;have HO249:=n2_;have BK235:=n3_;have HB:=n4_;clear n0_ n1_ n2_ n3_ n4_;(try clear hb);(try clear hb2);(try clear hk);(try clear hi)) | ((with_reducible refine gate_callee (f:=14) rfl ?_);refine goesL_ (some 61) rfl rfl Try.func14 (by kernel_rfl) rfl #[.slice A0 l0.length c0,.int .u64 a3] rfl (by (try simp only [List.map_toArray,List.map_cons,List.map_nil]);first | done | rfl | (simp only [List.length_drop,List.length_take];rfl)) ?_;(with_reducible refine (span_Has.calls kj19 _ _ l0 a3 false _ ?side1 ?side2 A34.out).mono ?_);(case side1 => repeat (first | exact (Kd.C_below HR0.out HB.out) | (with_reducible refine Kd.C_alloc ?_ _) | (with_reducible refine Kd.C_drewN ?_ _) | (with_reducible refine Kd.C_drew ?_)));(case side2 => exact HC0.out);rintro e w41 ⟨rfl,hb⟩;refine ⟨_,rfl,?_⟩;have n0_:=Aside0.mk (Kd.R_below (by (with_reducible repeat (first | apply Kd.R_alloc | apply Kd.R_drewN | apply Kd.R_drew));exact HO243.out) hb);have n1_:=Aside0.mk (Kd.R_below (by (with_reducible repeat (first | apply Kd.R_alloc | apply Kd.R_drewN | apply Kd.R_drew));exact HO246.out) hb);have n2_:=Aside0.mk (Kd.R_below (by (with_reducible repeat (first | apply Kd.R_alloc | apply Kd.R_drewN | apply Kd.R_drew));exact HO249.out) hb);have n3_:=Aside0.mk (blk_below (g:=gb235) (o:=.cells #[.int .u64 a2_0,.int .u64 a2_1] 25 (0,0)) (by (with_reducible repeat (first | refine blk_drewN ?_ _ | refine blk_drew ?_ | refine blk_alloc ?_ _));exact BK235.out) hb);have n4_:=Aside0.mk (below_step (by repeat (first | (with_reducible first | exact HB.out | apply below_alloc | apply pw_below_drewN | apply below_drew1 | refine below_set ?_ GE235.out) | exact HB.out)) hb);clear HO243;clear HO246;clear HO249;clear BK235;clear HB;have HO243:=n0_;have HO246:=n1_;have HO249:=n2_;have BK235:=n3_;have HB:=n4_;clear n0_ n1_ n2_ n3_ n4_;(try clear hb);(try clear hb2);(try clear hk);(try clear hi)))
        go_meet
        case rel => exact ⟨_,((t250 == x10_19)),(by first | rfl | (simp;done) | (simp [*];done)),H',⟨by have:=HJ5.out;have:=HJ19.out;first | omega | exact Nat.le_refl _⟩,⟨by (with_reducible repeat (first | apply Kd.R_alloc | apply Kd.R_drewN | apply Kd.R_drew));exact Kd.R_mono HO243.out (fun _ hk => ⟨hk.1.2,⟨hk.2,hk.1.1.2⟩⟩)⟩,⟨by (with_reducible repeat (first | apply Kd.R_alloc | apply Kd.R_drewN | apply Kd.R_drew));exact Kd.R_mono HO246.out (fun _ hk => ⟨hk.1.1.2,⟨hk.2,hk.1.2⟩⟩)⟩,⟨by (with_reducible repeat (first | apply Kd.R_alloc | apply Kd.R_drewN | apply Kd.R_drew));exact Kd.R_mono HO249.out (fun _ hk => ⟨hk.1.1.2,⟨hk.1.2,hk.2⟩⟩)⟩,⟨by (with_reducible repeat (first | refine blk_drewN ?_ _ | refine blk_drew ?_ | refine blk_alloc ?_ _));exact BK235.out⟩,⟨by repeat (first | (with_reducible first | exact HB.out | apply below_alloc | apply pw_below_drewN | apply below_drew1 | refine below_set ?_ GE235.out) | exact HB.out)⟩⟩
      case rest =>
       clear HC27
       try clear c1
       try clear c2
       try clear p2
       try clear c3
       try clear c4
       try clear c10
       try clear c11
       try clear c12
       try clear c14
       try clear c17
       try clear c19
       try clear c21
       try clear c21b0
       try clear c35
       try clear hcz22_0
       try clear hcz22_1
       try clear hcz23_0
       try clear hcz23_1
       try clear hcz28_0
       try clear hcz28_1
       try clear hcz30_0
       try clear hcz30_1
       try clear hfz22_0
       try clear hfz22_1
       try clear hfz23_0
       try clear hfz23_1
       try clear hfz28_0
       try clear hfz28_1
       try clear hfz30_0
       try clear hfz30_1
       try clear p2
       obtain ⟨kq,x14_26,rfl,HA,HJ26,HO_11,HO_12,HO_13,BK235,HB⟩:=hcut
       cases kq with
       | zero => exact absurd HA.out (by simp [wigwaglaw07_SpanHolds.j2])
       | succ kj26 =>
        have H:=HA.out
        clear HA
        simp only [wigwaglaw07_SpanHolds.j2] at H
        have HC42:=Aside0.mk H
        clear H
        go_upto_region 9 with (fail)
        go_cut [15] (fun v15 wc => ∃ (kq : Nat) (x15_41 : Bool),v15 = .bool x15_41 ∧ Aside0 (wigwaglaw07_SpanHolds.j3 kq l0 l1 a3 t236 t241 t244 t247 x14_26 x15_41 = some r) ∧ Aside0 (kq ≤ kj26) ∧ Aside0 (Kd.R k25 25 wc w.heap.size (fun k_ => some k_ ≠ (v245 : Value).ownBlock ∧ some k_ ≠ (v248 : Value).ownBlock ∧ k_ ≠ gb235) v242 t241) ∧ Aside0 (Kd.R k25 25 wc w.heap.size (fun k_ => some k_ ≠ (v242 : Value).ownBlock ∧ some k_ ≠ (v248 : Value).ownBlock ∧ k_ ≠ gb235) v245 t244) ∧ Aside0 (Kd.R k25 25 wc w.heap.size (fun k_ => some k_ ≠ (v242 : Value).ownBlock ∧ some k_ ≠ (v245 : Value).ownBlock ∧ k_ ≠ gb235) v248 t247) ∧ Aside0 (wc.heap[gb235]? = some (.cells #[.int .u64 a2_0,.int .u64 a2_1] 25 (0,0))) ∧ Aside0 (Below w.heap.size w wc))
        case first =>
         have H:=HC42.out
         clear HC42
         replace H:=Option.bind_eq_some_iff.mp H
         obtain ⟨t252,A430,H⟩:=H
         replace H : ((span_Has.f kj26 l0 a3).bind fun t253 => (if t253 = true then (wigwaglaw07_SpanHolds.j3 kj26 l0 l1 a3 t236 t241 t244 t247 x14_26 (t252 == (!x10_19))) else (wigwaglaw07_SpanHolds.j3 kj26 l0 l1 a3 t236 t241 t244 t247 x14_26 (t252 == false)))) = some r:=H
         have A43:=Aside0.mk A430
         clear A430
         replace H:=Option.bind_eq_some_iff.mp H
         obtain ⟨t253,A440,H⟩:=H
         replace H : (if t253 = true then (wigwaglaw07_SpanHolds.j3 kj26 l0 l1 a3 t236 t241 t244 t247 x14_26 (t252 == (!x10_19))) else (wigwaglaw07_SpanHolds.j3 kj26 l0 l1 a3 t236 t241 t244 t247 x14_26 (t252 == false))) = some r:=H
         have A44:=Aside0.mk A440
         clear A440
         by_cases c45 : t253 = true
         ·subst c45
          have H1 : (wigwaglaw07_SpanHolds.j3 kj26 l0 l1 a3 t236 t241 t244 t247 x14_26 (t252 == (!x10_19))) = some r:=by rw [if_pos rfl] at H;exact H
          clear H
          have H:=H1
          clear H1
          have H':=Aside0.mk H
          clear H
          obtain ⟨Ao46,co46,eo46⟩:=Kd.R_slice HO_12.out
          subst eo46
          go_wp2_with (first | ((with_reducible refine gate_callee (f:=14) rfl ?_);refine goesL_ (some 68) rfl rfl Try.func14 (by kernel_rfl) rfl #[.slice Ao46 t244.length co46,.int .u64 a3] rfl (by (try simp only [List.map_toArray,List.map_cons,List.map_nil]);first | done | rfl | (simp only [List.length_drop,List.length_take];rfl)) ?_;(with_reducible refine (span_Has.calls kj26 _ _ t244 a3 t252 _ ?side1 ?side2 A43.out).mono ?_);(case side1 => repeat (first | exact (Kd.R_reads' HO_12.out).2.2 | (with_reducible refine Kd.C_alloc ?_ _) | (with_reducible refine Kd.C_drewN ?_ _) | (with_reducible refine Kd.C_drew ?_)));(case side2 => exact (Kd.R_reads' HO_12.out).2.1);rintro e w47 ⟨rfl,hb⟩;refine ⟨_,rfl,?_⟩;have n0_:=Aside0.mk (Kd.R_below (by (with_reducible repeat (first | apply Kd.R_alloc | apply Kd.R_drewN | apply Kd.R_drew));exact HO_11.out) hb);have n1_:=Aside0.mk (Kd.R_below (by (with_reducible repeat (first | apply Kd.R_alloc | apply Kd.R_drewN | apply Kd.R_drew));exact HO_12.out) hb);have n2_:=Aside0.mk (Kd.R_below (by (with_reducible repeat (first | apply Kd.R_alloc | apply Kd.R_drewN | apply Kd.R_drew));exact HO_13.out) hb);have n3_:=Aside0.mk (blk_below (g:=gb235) (o:=.cells #[.int .u64 a2_0,.int .u64 a2_1] 25 (0,0)) (by (with_reducible repeat (first | refine blk_drewN ?_ _ | refine blk_drew ?_ | refine blk_alloc ?_ _));exact BK235.out) hb);have n4_:=Aside0.mk (below_step (by repeat (first | (with_reducible first | exact HB.out | apply below_alloc | apply pw_below_drewN | apply below_drew1 | refine below_set ?_ GE235.out) | exact HB.out)) hb);clear HO_11;clear HO_12;clear HO_13;clear BK235;clear HB;have HO_11:=n0_;have HO_12:=n1_;have HO_13:=n2_;have BK235:=n3_;have HB:=n4_;clear n0_ n1_ n2_ n3_ n4_;(try clear hb);(try clear hb2);(try clear hk);(try clear hi)) | ((with_reducible refine gate_callee (f:=14) rfl ?_);refine goesL_ (some 71) rfl rfl Try.func14 (by kernel_rfl) rfl #[.slice A0 l0.length c0,.int .u64 a3] rfl (by (try simp only [List.map_toArray,List.map_cons,List.map_nil]);first | done | rfl | (simp only [List.length_drop,List.length_take];rfl)) ?_;(with_reducible refine (span_Has.calls kj26 _ _ l0 a3 true _ ?side1 ?side2 A44.out).mono ?_);(case side1 => repeat (first | exact (Kd.C_below HR0.out HB.out) | (with_reducible refine Kd.C_alloc ?_ _) | (with_reducible refine Kd.C_drewN ?_ _) | (with_reducible refine Kd.C_drew ?_)));(case side2 => exact HC0.out);rintro e w48 ⟨rfl,hb⟩;refine ⟨_,rfl,?_⟩;have n0_:=Aside0.mk (Kd.R_below (by (with_reducible repeat (first | apply Kd.R_alloc | apply Kd.R_drewN | apply Kd.R_drew));exact HO_11.out) hb);have n1_:=Aside0.mk (Kd.R_below (by (with_reducible repeat (first | apply Kd.R_alloc | apply Kd.R_drewN | apply Kd.R_drew));exact HO_12.out) hb);have n2_:=Aside0.mk (Kd.R_below (by (with_reducible repeat (first | apply Kd.R_alloc | apply Kd.R_drewN | apply Kd.R_drew));exact HO_13.out) hb);have n3_:=Aside0.mk (blk_below (g:=gb235) (o:=.cells #[.int .u64 a2_0,.int .u64 a2_1] 25 (0,0)) (by (with_reducible repeat (first | refine blk_drewN ?_ _ | refine blk_drew ?_ | refine blk_alloc ?_ _));exact BK235.out) hb);have n4_:=Aside0.mk (below_step (by repeat (first | (with_reducible first | exact HB.out | apply below_alloc | apply pw_below_drewN | apply below_drew1 | refine below_set ?_ GE235.out) | exact HB.out)) hb);clear HO_11;clear HO_12;clear HO_13;clear BK235;clear HB;have HO_11:=n0_;have HO_12:=n1_;have HO_13:=n2_;have BK235:=n3_;have HB:=n4_;clear n0_ n1_ n2_ n3_ n4_;(try clear hb);(try clear hb2);(try clear hk);(try clear hi)))
          go_meet
          case rel => exact ⟨_,((t252 == (!x10_19))),(by first | rfl | (simp;done) | (simp [*];done)),H',⟨by have:=HJ5.out;have:=HJ19.out;have:=HJ26.out;first | omega | exact Nat.le_refl _⟩,⟨by (with_reducible repeat (first | apply Kd.R_alloc | apply Kd.R_drewN | apply Kd.R_drew));exact HO_11.out⟩,⟨by (with_reducible repeat (first | apply Kd.R_alloc | apply Kd.R_drewN | apply Kd.R_drew));exact HO_12.out⟩,⟨by (with_reducible repeat (first | apply Kd.R_alloc | apply Kd.R_drewN | apply Kd.R_drew));exact HO_13.out⟩,⟨by (with_reducible repeat (first | refine blk_drewN ?_ _ | refine blk_drew ?_ | refine blk_alloc ?_ _));exact BK235.out⟩,⟨by repeat (first | (with_reducible first | exact HB.out | apply below_alloc | apply pw_below_drewN | apply below_drew1 | refine below_set ?_ GE235.out) | exact HB.out)⟩⟩
         ·replace c45:=Bool.eq_false_iff.mpr c45
          subst c45
          have H1 : (wigwaglaw07_SpanHolds.j3 kj26 l0 l1 a3 t236 t241 t244 t247 x14_26 (t252 == false)) = some r:=by rw [if_neg (show ¬ (false = true) by decide)] at H;exact H
          clear H
          have H:=H1
          clear H1
          have H':=Aside0.mk H
          clear H
          obtain ⟨Ao49,co49,eo49⟩:=Kd.R_slice HO_12.out
          subst eo49
          go_wp2_with (first | ((with_reducible refine gate_callee (f:=14) rfl ?_);refine goesL_ (some 68) rfl rfl Try.func14 (by kernel_rfl) rfl #[.slice Ao49 t244.length co49,.int .u64 a3] rfl (by (try simp only [List.map_toArray,List.map_cons,List.map_nil]);first | done | rfl | (simp only [List.length_drop,List.length_take];rfl)) ?_;(with_reducible refine (span_Has.calls kj26 _ _ t244 a3 t252 _ ?side1 ?side2 A43.out).mono ?_);(case side1 => repeat (first | exact (Kd.R_reads' HO_12.out).2.2 | (with_reducible refine Kd.C_alloc ?_ _) | (with_reducible refine Kd.C_drewN ?_ _) | (with_reducible refine Kd.C_drew ?_)));(case side2 => exact (Kd.R_reads' HO_12.out).2.1);rintro e w50 ⟨rfl,hb⟩;refine ⟨_,rfl,?_⟩;have n0_:=Aside0.mk (Kd.R_below (by (with_reducible repeat (first | apply Kd.R_alloc | apply Kd.R_drewN | apply Kd.R_drew));exact HO_11.out) hb);have n1_:=Aside0.mk (Kd.R_below (by (with_reducible repeat (first | apply Kd.R_alloc | apply Kd.R_drewN | apply Kd.R_drew));exact HO_12.out) hb);have n2_:=Aside0.mk (Kd.R_below (by (with_reducible repeat (first | apply Kd.R_alloc | apply Kd.R_drewN | apply Kd.R_drew));exact HO_13.out) hb);have n3_:=Aside0.mk (blk_below (g:=gb235) (o:=.cells #[.int .u64 a2_0,.int .u64 a2_1] 25 (0,0)) (by (with_reducible repeat (first | refine blk_drewN ?_ _ | refine blk_drew ?_ | refine blk_alloc ?_ _));exact BK235.out) hb);have n4_:=Aside0.mk (below_step (by repeat (first | (with_reducible first | exact HB.out | apply below_alloc | apply pw_below_drewN | apply below_drew1 | refine below_set ?_ GE235.out) | exact HB.out)) hb);clear HO_11;clear HO_12;clear HO_13;clear BK235;clear HB;have HO_11:=n0_;have HO_12:=n1_;have HO_13:=n2_;have BK235:=n3_;have HB:=n4_;clear n0_ n1_ n2_ n3_ n4_;(try clear hb);(try clear hb2);(try clear hk);(try clear hi)) | ((with_reducible refine gate_callee (f:=14) rfl ?_);refine goesL_ (some 71) rfl rfl Try.func14 (by kernel_rfl) rfl #[.slice A0 l0.length c0,.int .u64 a3] rfl (by (try simp only [List.map_toArray,List.map_cons,List.map_nil]);first | done | rfl | (simp only [List.length_drop,List.length_take];rfl)) ?_;(with_reducible refine (span_Has.calls kj26 _ _ l0 a3 false _ ?side1 ?side2 A44.out).mono ?_);(case side1 => repeat (first | exact (Kd.C_below HR0.out HB.out) | (with_reducible refine Kd.C_alloc ?_ _) | (with_reducible refine Kd.C_drewN ?_ _) | (with_reducible refine Kd.C_drew ?_)));(case side2 => exact HC0.out);rintro e w51 ⟨rfl,hb⟩;refine ⟨_,rfl,?_⟩;have n0_:=Aside0.mk (Kd.R_below (by (with_reducible repeat (first | apply Kd.R_alloc | apply Kd.R_drewN | apply Kd.R_drew));exact HO_11.out) hb);have n1_:=Aside0.mk (Kd.R_below (by (with_reducible repeat (first | apply Kd.R_alloc | apply Kd.R_drewN | apply Kd.R_drew));exact HO_12.out) hb);have n2_:=Aside0.mk (Kd.R_below (by (with_reducible repeat (first | apply Kd.R_alloc | apply Kd.R_drewN | apply Kd.R_drew));exact HO_13.out) hb);have n3_:=Aside0.mk (blk_below (g:=gb235) (o:=.cells #[.int .u64 a2_0,.int .u64 a2_1] 25 (0,0)) (by (with_reducible repeat (first | refine blk_drewN ?_ _ | refine blk_drew ?_ | refine blk_alloc ?_ _));exact BK235.out) hb);have n4_:=Aside0.mk (below_step (by repeat (first | (with_reducible first | exact HB.out | apply below_alloc | apply pw_below_drewN | apply below_drew1 | refine below_set ?_ GE235.out) | exact HB.out)) hb);clear HO_11;clear HO_12;clear HO_13;clear BK235;clear HB;have HO_11:=n0_;have HO_12:=n1_;have HO_13:=n2_;have BK235:=n3_;have HB:=n4_;clear n0_ n1_ n2_ n3_ n4_;(try clear hb);(try clear hb2);(try clear hk);(try clear hi)))
          go_meet
          case rel => exact ⟨_,((t252 == false)),(by first | rfl | (simp;done) | (simp [*];done)),H',⟨by have:=HJ5.out;have:=HJ19.out;have:=HJ26.out;first | omega | exact Nat.le_refl _⟩,⟨by (with_reducible repeat (first | apply Kd.R_alloc | apply Kd.R_drewN | apply Kd.R_drew));exact HO_11.out⟩,⟨by (with_reducible repeat (first | apply Kd.R_alloc | apply Kd.R_drewN | apply Kd.R_drew));exact HO_12.out⟩,⟨by (with_reducible repeat (first | apply Kd.R_alloc | apply Kd.R_drewN | apply Kd.R_drew));exact HO_13.out⟩,⟨by (with_reducible repeat (first | refine blk_drewN ?_ _ | refine blk_drew ?_ | refine blk_alloc ?_ _));exact BK235.out⟩,⟨by repeat (first | (with_reducible first | exact HB.out | apply below_alloc | apply pw_below_drewN | apply below_drew1 | refine below_set ?_ GE235.out) | exact HB.out)⟩⟩
        case rest =>
         clear HC42
         try clear c1
         try clear c2
         try clear p2
         try clear c3
         try clear c4
         try clear c10
         try clear c11
         try clear c12
         try clear c14
         try clear c17
         try clear c19
         try clear c21
         try clear c21b0
         try clear c35
         try clear c45
         try clear hcz22_0
         try clear hcz22_1
         try clear hcz23_0
         try clear hcz23_1
         try clear hcz28_0
         try clear hcz28_1
         try clear hcz30_0
         try clear hcz30_1
         try clear hfz22_0
         try clear hfz22_1
         try clear hfz23_0
         try clear hfz23_1
         try clear hfz28_0
         try clear hfz28_1
         try clear hfz30_0
         try clear hfz30_1
         try clear p2
         obtain ⟨kq,x15_41,rfl,HA,HJ41,HO_11,HO_12,HO_13,BK235,HB⟩:=hcut
         cases kq with
         | zero => exact absurd HA.out (by simp [wigwaglaw07_SpanHolds.j3])
         | succ kj41 =>
          have H:=HA.out
          clear HA
          simp only [wigwaglaw07_SpanHolds.j3] at H
          have HC52:=Aside0.mk H
          clear H
          go_upto_region 10 with (fail)
          go_cut [16] (fun v16 wc => ∃ (kq : Nat) (x16_51 : Bool),v16 = .bool x16_51 ∧ Aside0 (wigwaglaw07_SpanHolds.j4 kq t236 t241 t244 t247 x14_26 x15_41 x16_51 = some r) ∧ Aside0 (kq ≤ kj41) ∧ Aside0 (Kd.R k25 25 wc w.heap.size (fun k_ => some k_ ≠ (v245 : Value).ownBlock ∧ some k_ ≠ (v248 : Value).ownBlock ∧ k_ ≠ gb235) v242 t241) ∧ Aside0 (Kd.R k25 25 wc w.heap.size (fun k_ => some k_ ≠ (v242 : Value).ownBlock ∧ some k_ ≠ (v248 : Value).ownBlock ∧ k_ ≠ gb235) v245 t244) ∧ Aside0 (Kd.R k25 25 wc w.heap.size (fun k_ => some k_ ≠ (v242 : Value).ownBlock ∧ some k_ ≠ (v245 : Value).ownBlock ∧ k_ ≠ gb235) v248 t247) ∧ Aside0 (wc.heap[gb235]? = some (.cells #[.int .u64 a2_0,.int .u64 a2_1] 25 (0,0))) ∧ Aside0 (Below w.heap.size w wc))
          case first =>
           have H:=HC52.out
           clear HC52
           replace H:=Option.bind_eq_some_iff.mp H
           obtain ⟨t254,A530,H⟩:=H
           replace H : ((span_Has.f kj41 l0 a3).bind fun t255 => (if t255 = true then ((span_Has.f kj41 l1 a3).bind fun t256 => (wigwaglaw07_SpanHolds.j4 kj41 t236 t241 t244 t247 x14_26 x15_41 (t254 == t256))) else (wigwaglaw07_SpanHolds.j4 kj41 t236 t241 t244 t247 x14_26 x15_41 (t254 == false)))) = some r:=H
           have A53:=Aside0.mk A530
           clear A530
           replace H:=Option.bind_eq_some_iff.mp H
           obtain ⟨t255,A540,H⟩:=H
           replace H : (if t255 = true then ((span_Has.f kj41 l1 a3).bind fun t256 => (wigwaglaw07_SpanHolds.j4 kj41 t236 t241 t244 t247 x14_26 x15_41 (t254 == t256))) else (wigwaglaw07_SpanHolds.j4 kj41 t236 t241 t244 t247 x14_26 x15_41 (t254 == false))) = some r:=H
           have A54:=Aside0.mk A540
           clear A540
           by_cases c55 : t255 = true
           ·subst c55
            have H1 : ((span_Has.f kj41 l1 a3).bind fun t256 => (wigwaglaw07_SpanHolds.j4 kj41 t236 t241 t244 t247 x14_26 x15_41 (t254 == t256))) = some r:=by rw [if_pos rfl] at H;exact H
            clear H
            have H:=H1
            clear H1
            replace H:=Option.bind_eq_some_iff.mp H
            obtain ⟨t256,A560,H⟩:=H
            replace H : (wigwaglaw07_SpanHolds.j4 kj41 t236 t241 t244 t247 x14_26 x15_41 (t254 == t256)) = some r:=H
            have A56:=Aside0.mk A560
            clear A560
            have H':=Aside0.mk H
            clear H
            obtain ⟨Ao57,co57,eo57⟩:=Kd.R_slice HO_13.out
            subst eo57
            go_wp2_with (first | ((with_reducible refine gate_callee (f:=14) rfl ?_);refine goesL_ (some 79) rfl rfl Try.func14 (by kernel_rfl) rfl #[.slice Ao57 t247.length co57,.int .u64 a3] rfl (by (try simp only [List.map_toArray,List.map_cons,List.map_nil]);first | done | rfl | (simp only [List.length_drop,List.length_take];rfl)) ?_;(with_reducible refine (span_Has.calls kj41 _ _ t247 a3 t254 _ ?side1 ?side2 A53.out).mono ?_);(case side1 => repeat (first | exact (Kd.R_reads' HO_13.out).2.2 | (with_reducible refine Kd.C_alloc ?_ _) | (with_reducible refine Kd.C_drewN ?_ _) | (with_reducible refine Kd.C_drew ?_)));(case side2 => exact (Kd.R_reads' HO_13.out).2.1);rintro e w58 ⟨rfl,hb⟩;refine ⟨_,rfl,?_⟩;have n0_:=Aside0.mk (Kd.R_below (by (with_reducible repeat (first | apply Kd.R_alloc | apply Kd.R_drewN | apply Kd.R_drew));exact HO_11.out) hb);have n1_:=Aside0.mk (Kd.R_below (by (with_reducible repeat (first | apply Kd.R_alloc | apply Kd.R_drewN | apply Kd.R_drew));exact HO_12.out) hb);have n2_:=Aside0.mk (Kd.R_below (by (with_reducible repeat (first | apply Kd.R_alloc | apply Kd.R_drewN | apply Kd.R_drew));exact HO_13.out) hb);have n3_:=Aside0.mk (blk_below (g:=gb235) (o:=.cells #[.int .u64 a2_0,.int .u64 a2_1] 25 (0,0)) (by (with_reducible repeat (first | refine blk_drewN ?_ _ | refine blk_drew ?_ | refine blk_alloc ?_ _));exact BK235.out) hb);have n4_:=Aside0.mk (below_step (by repeat (first | (with_reducible first | exact HB.out | apply below_alloc | apply pw_below_drewN | apply below_drew1 | refine below_set ?_ GE235.out) | exact HB.out)) hb);clear HO_11;clear HO_12;clear HO_13;clear BK235;clear HB;have HO_11:=n0_;have HO_12:=n1_;have HO_13:=n2_;have BK235:=n3_;have HB:=n4_;clear n0_ n1_ n2_ n3_ n4_;(try clear hb);(try clear hb2);(try clear hk);(try clear hi)) | ((with_reducible refine gate_callee (f:=14) rfl ?_);refine goesL_ (some 82) rfl rfl Try.func14 (by kernel_rfl) rfl #[.slice A0 l0.length c0,.int .u64 a3] rfl (by (try simp only [List.map_toArray,List.map_cons,List.map_nil]);first | done | rfl | (simp only [List.length_drop,List.length_take];rfl)) ?_;(with_reducible refine (span_Has.calls kj41 _ _ l0 a3 true _ ?side1 ?side2 A54.out).mono ?_);(case side1 => repeat (first | exact (Kd.C_below HR0.out HB.out) | (with_reducible refine Kd.C_alloc ?_ _) | (with_reducible refine Kd.C_drewN ?_ _) | (with_reducible refine Kd.C_drew ?_)));(case side2 => exact HC0.out);rintro e w59 ⟨rfl,hb⟩;refine ⟨_,rfl,?_⟩;have n0_:=Aside0.mk (Kd.R_below (by (with_reducible repeat (first | apply Kd.R_alloc | apply Kd.R_drewN | apply Kd.R_drew));exact HO_11.out) hb);have n1_:=Aside0.mk (Kd.R_below (by (with_reducible repeat (first | apply Kd.R_alloc | apply Kd.R_drewN | apply Kd.R_drew));exact HO_12.out) hb);have n2_:=Aside0.mk (Kd.R_below (by (with_reducible repeat (first | apply Kd.R_alloc | apply Kd.R_drewN | apply Kd.R_drew));exact HO_13.out) hb);have n3_:=Aside0.mk (blk_below (g:=gb235) (o:=.cells #[.int .u64 a2_0,.int .u64 a2_1] 25 (0,0)) (by (with_reducible repeat (first | refine blk_drewN ?_ _ | refine blk_drew ?_ | refine blk_alloc ?_ _));exact BK235.out) hb);have n4_:=Aside0.mk (below_step (by repeat (first | (with_reducible first | exact HB.out | apply below_alloc | apply pw_below_drewN | apply below_drew1 | refine below_set ?_ GE235.out) | exact HB.out)) hb);clear HO_11;clear HO_12;clear HO_13;clear BK235;clear HB;have HO_11:=n0_;have HO_12:=n1_;have HO_13:=n2_;have BK235:=n3_;have HB:=n4_;clear n0_ n1_ n2_ n3_ n4_;(try clear hb);(try clear hb2);(try clear hk);(try clear hi)) | (go_at_call 14;(with_reducible refine (span_Has.calls kj41 _ _ l1 a3 t256 _ ?side1 ?side2 A56.out).mono ?_);(case side1 => repeat (first | exact (Kd.C_below HR1.out HB.out) | (with_reducible refine Kd.C_alloc ?_ _) | (with_reducible refine Kd.C_drewN ?_ _) | (with_reducible refine Kd.C_drew ?_)));(case side2 => exact HC1.out);rintro e w60 ⟨rfl,hb⟩;have n0_:=Aside0.mk (Kd.R_below (by (with_reducible repeat (first | apply Kd.R_alloc | apply Kd.R_drewN | apply Kd.R_drew));exact HO_11.out) hb);have n1_:=Aside0.mk (Kd.R_below (by (with_reducible repeat (first | apply Kd.R_alloc | apply Kd.R_drewN | apply Kd.R_drew));exact HO_12.out) hb);have n2_:=Aside0.mk (Kd.R_below (by (with_reducible repeat (first | apply Kd.R_alloc | apply Kd.R_drewN | apply Kd.R_drew));exact HO_13.out) hb);have n3_:=Aside0.mk (blk_below (g:=gb235) (o:=.cells #[.int .u64 a2_0,.int .u64 a2_1] 25 (0,0)) (by (with_reducible repeat (first | refine blk_drewN ?_ _ | refine blk_drew ?_ | refine blk_alloc ?_ _));exact BK235.out) hb);have n4_:=Aside0.mk (below_step (by repeat (first | (with_reducible first | exact HB.out | apply below_alloc | apply pw_below_drewN | apply below_drew1 | refine below_set ?_ GE235.out) | exact HB.out)) hb);clear HO_11;clear HO_12;clear HO_13;clear BK235;clear HB;have HO_11:=n0_;have HO_12:=n1_;have HO_13:=n2_;have BK235:=n3_;have HB:=n4_;clear n0_ n1_ n2_ n3_ n4_;(try clear hb);(try clear hb2);(try clear hk);(try clear hi)))
            go_meet
            case rel => exact ⟨_,((t254 == t256)),(by first | rfl | (simp;done) | (simp [*];done)),H',⟨by have:=HJ5.out;have:=HJ19.out;have:=HJ26.out;have:=HJ41.out;first | omega | exact Nat.le_refl _⟩,⟨by (with_reducible repeat (first | apply Kd.R_alloc | apply Kd.R_drewN | apply Kd.R_drew));exact HO_11.out⟩,⟨by (with_reducible repeat (first | apply Kd.R_alloc | apply Kd.R_drewN | apply Kd.R_drew));exact HO_12.out⟩,⟨by (with_reducible repeat (first | apply Kd.R_alloc | apply Kd.R_drewN | apply Kd.R_drew));exact HO_13.out⟩,⟨by (with_reducible repeat (first | refine blk_drewN ?_ _ | refine blk_drew ?_ | refine blk_alloc ?_ _));exact BK235.out⟩,⟨by repeat (first | (with_reducible first | exact HB.out | apply below_alloc | apply pw_below_drewN | apply below_drew1 | refine below_set ?_ GE235.out) | exact HB.out)⟩⟩
           ·replace c55:=Bool.eq_false_iff.mpr c55
            subst c55
            have H1 : (wigwaglaw07_SpanHolds.j4 kj41 t236 t241 t244 t247 x14_26 x15_41 (t254 == false)) = some r:=by rw [if_neg (show ¬ (false = true) by decide)] at H;exact H
            clear H
            have H:=H1
            clear H1
            have H':=Aside0.mk H
            clear H
            obtain ⟨Ao61,co61,eo61⟩:=Kd.R_slice HO_13.out
            subst eo61
            go_wp2_with (first | ((with_reducible refine gate_callee (f:=14) rfl ?_);refine goesL_ (some 79) rfl rfl Try.func14 (by kernel_rfl) rfl #[.slice Ao61 t247.length co61,.int .u64 a3] rfl (by (try simp only [List.map_toArray,List.map_cons,List.map_nil]);first | done | rfl | (simp only [List.length_drop,List.length_take];rfl)) ?_;(with_reducible refine (span_Has.calls kj41 _ _ t247 a3 t254 _ ?side1 ?side2 A53.out).mono ?_);(case side1 => repeat (first | exact (Kd.R_reads' HO_13.out).2.2 | (with_reducible refine Kd.C_alloc ?_ _) | (with_reducible refine Kd.C_drewN ?_ _) | (with_reducible refine Kd.C_drew ?_)));(case side2 => exact (Kd.R_reads' HO_13.out).2.1);rintro e w62 ⟨rfl,hb⟩;refine ⟨_,rfl,?_⟩;have n0_:=Aside0.mk (Kd.R_below (by (with_reducible repeat (first | apply Kd.R_alloc | apply Kd.R_drewN | apply Kd.R_drew));exact HO_11.out) hb);have n1_:=Aside0.mk (Kd.R_below (by (with_reducible repeat (first | apply Kd.R_alloc | apply Kd.R_drewN | apply Kd.R_drew));exact HO_12.out) hb);have n2_:=Aside0.mk (Kd.R_below (by (with_reducible repeat (first | apply Kd.R_alloc | apply Kd.R_drewN | apply Kd.R_drew));exact HO_13.out) hb);have n3_:=Aside0.mk (blk_below (g:=gb235) (o:=.cells #[.int .u64 a2_0,.int .u64 a2_1] 25 (0,0)) (by (with_reducible repeat (first | refine blk_drewN ?_ _ | refine blk_drew ?_ | refine blk_alloc ?_ _));exact BK235.out) hb);have n4_:=Aside0.mk (below_step (by repeat (first | (with_reducible first | exact HB.out | apply below_alloc | apply pw_below_drewN | apply below_drew1 | refine below_set ?_ GE235.out) | exact HB.out)) hb);clear HO_11;clear HO_12;clear HO_13;clear BK235;clear HB;have HO_11:=n0_;have HO_12:=n1_;have HO_13:=n2_;have BK235:=n3_;have HB:=n4_;clear n0_ n1_ n2_ n3_ n4_;(try clear hb);(try clear hb2);(try clear hk);(try clear hi)) | ((with_reducible refine gate_callee (f:=14) rfl ?_);refine goesL_ (some 82) rfl rfl Try.func14 (by kernel_rfl) rfl #[.slice A0 l0.length c0,.int .u64 a3] rfl (by (try simp only [List.map_toArray,List.map_cons,List.map_nil]);first | done | rfl | (simp only [List.length_drop,List.length_take];rfl)) ?_;(with_reducible refine (span_Has.calls kj41 _ _ l0 a3 false _ ?side1 ?side2 A54.out).mono ?_);(case side1 => repeat (first | exact (Kd.C_below HR0.out HB.out) | (with_reducible refine Kd.C_alloc ?_ _) | (with_reducible refine Kd.C_drewN ?_ _) | (with_reducible refine Kd.C_drew ?_)));(case side2 => exact HC0.out);rintro e w63 ⟨rfl,hb⟩;refine ⟨_,rfl,?_⟩;have n0_:=Aside0.mk (Kd.R_below (by (with_reducible repeat (first | apply Kd.R_alloc | apply Kd.R_drewN | apply Kd.R_drew));exact HO_11.out) hb);have n1_:=Aside0.mk (Kd.R_below (by (with_reducible repeat (first | apply Kd.R_alloc | apply Kd.R_drewN | apply Kd.R_drew));exact HO_12.out) hb);have n2_:=Aside0.mk (Kd.R_below (by (with_reducible repeat (first | apply Kd.R_alloc | apply Kd.R_drewN | apply Kd.R_drew));exact HO_13.out) hb);have n3_:=Aside0.mk (blk_below (g:=gb235) (o:=.cells #[.int .u64 a2_0,.int .u64 a2_1] 25 (0,0)) (by (with_reducible repeat (first | refine blk_drewN ?_ _ | refine blk_drew ?_ | refine blk_alloc ?_ _));exact BK235.out) hb);have n4_:=Aside0.mk (below_step (by repeat (first | (with_reducible first | exact HB.out | apply below_alloc | apply pw_below_drewN | apply below_drew1 | refine below_set ?_ GE235.out) | exact HB.out)) hb);clear HO_11;clear HO_12;clear HO_13;clear BK235;clear HB;have HO_11:=n0_;have HO_12:=n1_;have HO_13:=n2_;have BK235:=n3_;have HB:=n4_;clear n0_ n1_ n2_ n3_ n4_;(try clear hb);(try clear hb2);(try clear hk);(try clear hi)))
            go_meet
            case rel => exact ⟨_,((t254 == false)),(by first | rfl | (simp;done) | (simp [*];done)),H',⟨by have:=HJ5.out;have:=HJ19.out;have:=HJ26.out;have:=HJ41.out;first | omega | exact Nat.le_refl _⟩,⟨by (with_reducible repeat (first | apply Kd.R_alloc | apply Kd.R_drewN | apply Kd.R_drew));exact HO_11.out⟩,⟨by (with_reducible repeat (first | apply Kd.R_alloc | apply Kd.R_drewN | apply Kd.R_drew));exact HO_12.out⟩,⟨by (with_reducible repeat (first | apply Kd.R_alloc | apply Kd.R_drewN | apply Kd.R_drew));exact HO_13.out⟩,⟨by (with_reducible repeat (first | refine blk_drewN ?_ _ | refine blk_drew ?_ | refine blk_alloc ?_ _));exact BK235.out⟩,⟨by repeat (first | (with_reducible first | exact HB.out | apply below_alloc | apply pw_below_drewN | apply below_drew1 | refine below_set ?_ GE235.out) | exact HB.out)⟩⟩
          case rest =>
           clear HC52
           try clear c1
           try clear c2
           try clear p2
           try clear c3
           try clear c4
           try clear c5
           try clear c10
           try clear c11
           try clear c12
           try clear c14
           try clear c17
           try clear c19
           try clear c21
           try clear c21b0
           try clear c35
           try clear c45
           try clear c55
           try clear hcz22_0
           try clear hcz22_1
           try clear hcz23_0
           try clear hcz23_1
           try clear hcz28_0
           try clear hcz28_1
           try clear hcz30_0
           try clear hcz30_1
           try clear hfz22_0
           try clear hfz22_1
           try clear hfz23_0
           try clear hfz23_1
           try clear hfz28_0
           try clear hfz28_1
           try clear hfz30_0
           try clear hfz30_1
           try clear p2
           obtain ⟨kq,x16_51,rfl,HA,HJ51,HO_11,HO_12,HO_13,BK235,HB⟩:=hcut
           cases kq with
           | zero => exact absurd HA.out (by simp [wigwaglaw07_SpanHolds.j4])
           | succ kj51 =>
            have H:=HA.out
            clear HA
            simp only [wigwaglaw07_SpanHolds.j4] at H
            by_cases c64 : t236 = true
            ·subst c64
             have H1 : (if x14_26 = true then (if x15_41 = true then (if x16_51 = true then ((span_Check.f kj51 t241).bind fun t257 => (if t257 = true then ((span_Check.f kj51 t244).bind fun t258 => (if t258 = true then ((span_Check.f kj51 t247).bind fun t259 => (some t259)) else (some false))) else (some false))) else (some false)) else (some false)) else (some false)) = some r:=by rw [if_pos rfl] at H;exact H
             clear H
             have H:=H1
             clear H1
             by_cases c65 : x14_26 = true
             ·subst c65
              have H1 : (if x15_41 = true then (if x16_51 = true then ((span_Check.f kj51 t241).bind fun t257 => (if t257 = true then ((span_Check.f kj51 t244).bind fun t258 => (if t258 = true then ((span_Check.f kj51 t247).bind fun t259 => (some t259)) else (some false))) else (some false))) else (some false)) else (some false)) = some r:=by rw [if_pos rfl] at H;exact H
              clear H
              have H:=H1
              clear H1
              by_cases c66 : x15_41 = true
              ·subst c66
               have H1 : (if x16_51 = true then ((span_Check.f kj51 t241).bind fun t257 => (if t257 = true then ((span_Check.f kj51 t244).bind fun t258 => (if t258 = true then ((span_Check.f kj51 t247).bind fun t259 => (some t259)) else (some false))) else (some false))) else (some false)) = some r:=by rw [if_pos rfl] at H;exact H
               clear H
               have H:=H1
               clear H1
               by_cases c67 : x16_51 = true
               ·subst c67
                have H1 : ((span_Check.f kj51 t241).bind fun t257 => (if t257 = true then ((span_Check.f kj51 t244).bind fun t258 => (if t258 = true then ((span_Check.f kj51 t247).bind fun t259 => (some t259)) else (some false))) else (some false))) = some r:=by rw [if_pos rfl] at H;exact H
                clear H
                have H:=H1
                clear H1
                replace H:=Option.bind_eq_some_iff.mp H
                obtain ⟨t257,A680,H⟩:=H
                replace H : (if t257 = true then ((span_Check.f kj51 t244).bind fun t258 => (if t258 = true then ((span_Check.f kj51 t247).bind fun t259 => (some t259)) else (some false))) else (some false)) = some r:=H
                have A68:=Aside0.mk A680
                clear A680
                by_cases c69 : t257 = true
                ·subst c69
                 have H1 : ((span_Check.f kj51 t244).bind fun t258 => (if t258 = true then ((span_Check.f kj51 t247).bind fun t259 => (some t259)) else (some false))) = some r:=by rw [if_pos rfl] at H;exact H
                 clear H
                 have H:=H1
                 clear H1
                 replace H:=Option.bind_eq_some_iff.mp H
                 obtain ⟨t258,A700,H⟩:=H
                 replace H : (if t258 = true then ((span_Check.f kj51 t247).bind fun t259 => (some t259)) else (some false)) = some r:=H
                 have A70:=Aside0.mk A700
                 clear A700
                 by_cases c71 : t258 = true
                 ·subst c71
                  have H1 : ((span_Check.f kj51 t247).bind fun t259 => (some t259)) = some r:=by rw [if_pos rfl] at H;exact H
                  clear H
                  have H:=H1
                  clear H1
                  replace H:=Option.bind_eq_some_iff.mp H
                  obtain ⟨t259,A720,H⟩:=H
                  replace H : (some t259) = some r:=H
                  have A72:=Aside0.mk A720
                  clear A720
                  obtain rfl:=Option.some.inj H
                  obtain ⟨Ao73,co73,eo73⟩:=Kd.R_slice HO_11.out
                  subst eo73
                  go_wp2_with (first | (go_at_call 12;(with_reducible refine (span_Check.calls kj51 _ _ t241 true _ ?side1 ?side2 A68.out).mono ?_);(case side1 => repeat (first | exact (Kd.R_reads' HO_11.out).2.2 | (with_reducible refine Kd.C_alloc ?_ _) | (with_reducible refine Kd.C_drewN ?_ _) | (with_reducible refine Kd.C_drew ?_)));(case side2 => exact (Kd.R_reads' HO_11.out).2.1);rintro e w74 ⟨rfl,hb⟩;have n0_:=Aside0.mk (Kd.R_below (by (with_reducible repeat (first | apply Kd.R_alloc | apply Kd.R_drewN | apply Kd.R_drew));exact HO_11.out) hb);have n1_:=Aside0.mk (Kd.R_below (by (with_reducible repeat (first | apply Kd.R_alloc | apply Kd.R_drewN | apply Kd.R_drew));exact HO_12.out) hb);have n2_:=Aside0.mk (Kd.R_below (by (with_reducible repeat (first | apply Kd.R_alloc | apply Kd.R_drewN | apply Kd.R_drew));exact HO_13.out) hb);have n3_:=Aside0.mk (blk_below (g:=gb235) (o:=.cells #[.int .u64 a2_0,.int .u64 a2_1] 25 (0,0)) (by (with_reducible repeat (first | refine blk_drewN ?_ _ | refine blk_drew ?_ | refine blk_alloc ?_ _));exact BK235.out) hb);have n4_:=Aside0.mk (below_step (by repeat (first | (with_reducible first | exact HB.out | apply below_alloc | apply pw_below_drewN | apply below_drew1 | refine below_set ?_ GE235.out) | exact HB.out)) hb);clear HO_11;clear HO_12;clear HO_13;clear BK235;clear HB;have HO_11:=n0_;have HO_12:=n1_;have HO_13:=n2_;have BK235:=n3_;have HB:=n4_;clear n0_ n1_ n2_ n3_ n4_;(try clear hb);(try clear hb2);(try clear hk);(try clear hi);obtain ⟨Ao75,co75,eo75⟩:=Kd.R_slice HO_12.out;subst eo75) | (go_at_call 12;(with_reducible refine (span_Check.calls kj51 _ _ t244 true _ ?side1 ?side2 A70.out).mono ?_);(case side1 => repeat (first | exact (Kd.R_reads' HO_12.out).2.2 | (with_reducible refine Kd.C_alloc ?_ _) | (with_reducible refine Kd.C_drewN ?_ _) | (with_reducible refine Kd.C_drew ?_)));(case side2 => exact (Kd.R_reads' HO_12.out).2.1);rintro e w76 ⟨rfl,hb⟩;have n0_:=Aside0.mk (Kd.R_below (by (with_reducible repeat (first | apply Kd.R_alloc | apply Kd.R_drewN | apply Kd.R_drew));exact HO_11.out) hb);have n1_:=Aside0.mk (Kd.R_below (by (with_reducible repeat (first | apply Kd.R_alloc | apply Kd.R_drewN | apply Kd.R_drew));exact HO_12.out) hb);have n2_:=Aside0.mk (Kd.R_below (by (with_reducible repeat (first | apply Kd.R_alloc | apply Kd.R_drewN | apply Kd.R_drew));exact HO_13.out) hb);have n3_:=Aside0.mk (blk_below (g:=gb235) (o:=.cells #[.int .u64 a2_0,.int .u64 a2_1] 25 (0,0)) (by (with_reducible repeat (first | refine blk_drewN ?_ _ | refine blk_drew ?_ | refine blk_alloc ?_ _));exact BK235.out) hb);have n4_:=Aside0.mk (below_step (by repeat (first | (with_reducible first | exact HB.out | apply below_alloc | apply pw_below_drewN | apply below_drew1 | refine below_set ?_ GE235.out) | exact HB.out)) hb);clear HO_11;clear HO_12;clear HO_13;clear BK235;clear HB;have HO_11:=n0_;have HO_12:=n1_;have HO_13:=n2_;have BK235:=n3_;have HB:=n4_;clear n0_ n1_ n2_ n3_ n4_;(try clear hb);(try clear hb2);(try clear hk);(try clear hi);obtain ⟨Ao77,co77,eo77⟩:=Kd.R_slice HO_13.out;subst eo77) | (go_at_call 12;(with_reducible refine (span_Check.calls kj51 _ _ t247 t259 _ ?side1 ?side2 A72.out).mono ?_);(case side1 => repeat (first | exact (Kd.R_reads' HO_13.out).2.2 | (with_reducible refine Kd.C_alloc ?_ _) | (with_reducible refine Kd.C_drewN ?_ _) | (with_reducible refine Kd.C_drew ?_)));(case side2 => exact (Kd.R_reads' HO_13.out).2.1);rintro e w78 ⟨rfl,hb⟩;have n0_:=Aside0.mk (Kd.R_below (by (with_reducible repeat (first | apply Kd.R_alloc | apply Kd.R_drewN | apply Kd.R_drew));exact HO_11.out) hb);have n1_:=Aside0.mk (Kd.R_below (by (with_reducible repeat (first | apply Kd.R_alloc | apply Kd.R_drewN | apply Kd.R_drew));exact HO_12.out) hb);have n2_:=Aside0.mk (Kd.R_below (by (with_reducible repeat (first | apply Kd.R_alloc | apply Kd.R_drewN | apply Kd.R_drew));exact HO_13.out) hb);have n3_:=Aside0.mk (blk_below (g:=gb235) (o:=.cells #[.int .u64 a2_0,.int .u64 a2_1] 25 (0,0)) (by (with_reducible repeat (first | refine blk_drewN ?_ _ | refine blk_drew ?_ | refine blk_alloc ?_ _));exact BK235.out) hb);have n4_:=Aside0.mk (below_step (by repeat (first | (with_reducible first | exact HB.out | apply below_alloc | apply pw_below_drewN | apply below_drew1 | refine below_set ?_ GE235.out) | exact HB.out)) hb);clear HO_11;clear HO_12;clear HO_13;clear BK235;clear HB;have HO_11:=n0_;have HO_12:=n1_;have HO_13:=n2_;have BK235:=n3_;have HB:=n4_;clear n0_ n1_ n2_ n3_ n4_;(try clear hb);(try clear hb2);(try clear hk);(try clear hi)))
                  go_ret
                  exact ⟨by first | rfl | (simp [errW_none,errW_some] <;> rfl) | (simp [*,errW_none,errW_some] <;> rfl),by repeat (first | (with_reducible first | exact HB.out | apply below_alloc | apply pw_below_drewN | apply below_drew1 | refine below_set ?_ GE235.out) | exact HB.out)⟩
                 ·replace c71:=Bool.eq_false_iff.mpr c71
                  subst c71
                  have H1 : (some false) = some r:=by rw [if_neg (show ¬ (false = true) by decide)] at H;exact H
                  clear H
                  have H:=H1
                  clear H1
                  obtain rfl:=Option.some.inj H
                  obtain ⟨Ao79,co79,eo79⟩:=Kd.R_slice HO_11.out
                  subst eo79
                  go_wp2_with (first | (go_at_call 12;(with_reducible refine (span_Check.calls kj51 _ _ t241 true _ ?side1 ?side2 A68.out).mono ?_);(case side1 => repeat (first | exact (Kd.R_reads' HO_11.out).2.2 | (with_reducible refine Kd.C_alloc ?_ _) | (with_reducible refine Kd.C_drewN ?_ _) | (with_reducible refine Kd.C_drew ?_)));(case side2 => exact (Kd.R_reads' HO_11.out).2.1);rintro e w80 ⟨rfl,hb⟩;have n0_:=Aside0.mk (Kd.R_below (by (with_reducible repeat (first | apply Kd.R_alloc | apply Kd.R_drewN | apply Kd.R_drew));exact HO_11.out) hb);have n1_:=Aside0.mk (Kd.R_below (by (with_reducible repeat (first | apply Kd.R_alloc | apply Kd.R_drewN | apply Kd.R_drew));exact HO_12.out) hb);have n2_:=Aside0.mk (Kd.R_below (by (with_reducible repeat (first | apply Kd.R_alloc | apply Kd.R_drewN | apply Kd.R_drew));exact HO_13.out) hb);have n3_:=Aside0.mk (blk_below (g:=gb235) (o:=.cells #[.int .u64 a2_0,.int .u64 a2_1] 25 (0,0)) (by (with_reducible repeat (first | refine blk_drewN ?_ _ | refine blk_drew ?_ | refine blk_alloc ?_ _));exact BK235.out) hb);have n4_:=Aside0.mk (below_step (by repeat (first | (with_reducible first | exact HB.out | apply below_alloc | apply pw_below_drewN | apply below_drew1 | refine below_set ?_ GE235.out) | exact HB.out)) hb);clear HO_11;clear HO_12;clear HO_13;clear BK235;clear HB;have HO_11:=n0_;have HO_12:=n1_;have HO_13:=n2_;have BK235:=n3_;have HB:=n4_;clear n0_ n1_ n2_ n3_ n4_;(try clear hb);(try clear hb2);(try clear hk);(try clear hi);obtain ⟨Ao81,co81,eo81⟩:=Kd.R_slice HO_12.out;subst eo81) | (go_at_call 12;(with_reducible refine (span_Check.calls kj51 _ _ t244 false _ ?side1 ?side2 A70.out).mono ?_);(case side1 => repeat (first | exact (Kd.R_reads' HO_12.out).2.2 | (with_reducible refine Kd.C_alloc ?_ _) | (with_reducible refine Kd.C_drewN ?_ _) | (with_reducible refine Kd.C_drew ?_)));(case side2 => exact (Kd.R_reads' HO_12.out).2.1);rintro e w82 ⟨rfl,hb⟩;have n0_:=Aside0.mk (Kd.R_below (by (with_reducible repeat (first | apply Kd.R_alloc | apply Kd.R_drewN | apply Kd.R_drew));exact HO_11.out) hb);have n1_:=Aside0.mk (Kd.R_below (by (with_reducible repeat (first | apply Kd.R_alloc | apply Kd.R_drewN | apply Kd.R_drew));exact HO_12.out) hb);have n2_:=Aside0.mk (Kd.R_below (by (with_reducible repeat (first | apply Kd.R_alloc | apply Kd.R_drewN | apply Kd.R_drew));exact HO_13.out) hb);have n3_:=Aside0.mk (blk_below (g:=gb235) (o:=.cells #[.int .u64 a2_0,.int .u64 a2_1] 25 (0,0)) (by (with_reducible repeat (first | refine blk_drewN ?_ _ | refine blk_drew ?_ | refine blk_alloc ?_ _));exact BK235.out) hb);have n4_:=Aside0.mk (below_step (by repeat (first | (with_reducible first | exact HB.out | apply below_alloc | apply pw_below_drewN | apply below_drew1 | refine below_set ?_ GE235.out) | exact HB.out)) hb);clear HO_11;clear HO_12;clear HO_13;clear BK235;clear HB;have HO_11:=n0_;have HO_12:=n1_;have HO_13:=n2_;have BK235:=n3_;have HB:=n4_;clear n0_ n1_ n2_ n3_ n4_;(try clear hb);(try clear hb2);(try clear hk);(try clear hi)))
                  go_ret
                  exact ⟨by first | rfl | (simp [errW_none,errW_some] <;> rfl) | (simp [*,errW_none,errW_some] <;> rfl),by repeat (first | (with_reducible first | exact HB.out | apply below_alloc | apply pw_below_drewN | apply below_drew1 | refine below_set ?_ GE235.out) | exact HB.out)⟩
                ·replace c69:=Bool.eq_false_iff.mpr c69
                 subst c69
                 have H1 : (some false) = some r:=by rw [if_neg (show ¬ (false = true) by decide)] at H;exact H
                 clear H
                 have H:=H1
                 clear H1
                 obtain rfl:=Option.some.inj H
                 obtain ⟨Ao83,co83,eo83⟩:=Kd.R_slice HO_11.out
                 subst eo83
                 go_wp2_with (first | (go_at_call 12;(with_reducible refine (span_Check.calls kj51 _ _ t241 false _ ?side1 ?side2 A68.out).mono ?_);(case side1 => repeat (first | exact (Kd.R_reads' HO_11.out).2.2 | (with_reducible refine Kd.C_alloc ?_ _) | (with_reducible refine Kd.C_drewN ?_ _) | (with_reducible refine Kd.C_drew ?_)));(case side2 => exact (Kd.R_reads' HO_11.out).2.1);rintro e w84 ⟨rfl,hb⟩;have n0_:=Aside0.mk (Kd.R_below (by (with_reducible repeat (first | apply Kd.R_alloc | apply Kd.R_drewN | apply Kd.R_drew));exact HO_11.out) hb);have n1_:=Aside0.mk (Kd.R_below (by (with_reducible repeat (first | apply Kd.R_alloc | apply Kd.R_drewN | apply Kd.R_drew));exact HO_12.out) hb);have n2_:=Aside0.mk (Kd.R_below (by (with_reducible repeat (first | apply Kd.R_alloc | apply Kd.R_drewN | apply Kd.R_drew));exact HO_13.out) hb);have n3_:=Aside0.mk (blk_below (g:=gb235) (o:=.cells #[.int .u64 a2_0,.int .u64 a2_1] 25 (0,0)) (by (with_reducible repeat (first | refine blk_drewN ?_ _ | refine blk_drew ?_ | refine blk_alloc ?_ _));exact BK235.out) hb);have n4_:=Aside0.mk (below_step (by repeat (first | (with_reducible first | exact HB.out | apply below_alloc | apply pw_below_drewN | apply below_drew1 | refine below_set ?_ GE235.out) | exact HB.out)) hb);clear HO_11;clear HO_12;clear HO_13;clear BK235;clear HB;have HO_11:=n0_;have HO_12:=n1_;have HO_13:=n2_;have BK235:=n3_;have HB:=n4_;clear n0_ n1_ n2_ n3_ n4_;(try clear hb);(try clear hb2);(try clear hk);(try clear hi)))
                 go_ret
                 exact ⟨by first | rfl | (simp [errW_none,errW_some] <;> rfl) | (simp [*,errW_none,errW_some] <;> rfl),by repeat (first | (with_reducible first | exact HB.out | apply below_alloc | apply pw_below_drewN | apply below_drew1 | refine below_set ?_ GE235.out) | exact HB.out)⟩
               ·replace c67:=Bool.eq_false_iff.mpr c67
                subst c67
                have H1 : (some false) = some r:=by rw [if_neg (show ¬ (false = true) by decide)] at H;exact H
                clear H
                have H:=H1
                clear H1
                obtain rfl:=Option.some.inj H
                go_wp2
                go_ret
                exact ⟨by first | rfl | (simp [errW_none,errW_some] <;> rfl) | (simp [*,errW_none,errW_some] <;> rfl),by repeat (first | (with_reducible first | exact HB.out | apply below_alloc | apply pw_below_drewN | apply below_drew1 | refine below_set ?_ GE235.out) | exact HB.out)⟩
              ·replace c66:=Bool.eq_false_iff.mpr c66
               subst c66
               have H1 : (some false) = some r:=by rw [if_neg (show ¬ (false = true) by decide)] at H;exact H
               clear H
               have H:=H1
               clear H1
               obtain rfl:=Option.some.inj H
               go_wp2
               go_ret
               exact ⟨by first | rfl | (simp [errW_none,errW_some] <;> rfl) | (simp [*,errW_none,errW_some] <;> rfl),by repeat (first | (with_reducible first | exact HB.out | apply below_alloc | apply pw_below_drewN | apply below_drew1 | refine below_set ?_ GE235.out) | exact HB.out)⟩
             ·replace c65:=Bool.eq_false_iff.mpr c65
              subst c65
              have H1 : (some false) = some r:=by rw [if_neg (show ¬ (false = true) by decide)] at H;exact H
              clear H
              have H:=H1
              clear H1
              obtain rfl:=Option.some.inj H
              go_wp2
              go_ret
              exact ⟨by first | rfl | (simp [errW_none,errW_some] <;> rfl) | (simp [*,errW_none,errW_some] <;> rfl),by repeat (first | (with_reducible first | exact HB.out | apply below_alloc | apply pw_below_drewN | apply below_drew1 | refine below_set ?_ GE235.out) | exact HB.out)⟩
            ·replace c64:=Bool.eq_false_iff.mpr c64
             subst c64
             have H1 : (some false) = some r:=by rw [if_neg (show ¬ (false = true) by decide)] at H;exact H
             clear H
             have H:=H1
             clear H1
             obtain rfl:=Option.some.inj H
             go_wp2
             go_ret
             exact ⟨by first | rfl | (simp [errW_none,errW_some] <;> rfl) | (simp [*,errW_none,errW_some] <;> rfl),by repeat (first | (with_reducible first | exact HB.out | apply below_alloc | apply pw_below_drewN | apply below_drew1 | refine below_set ?_ GE235.out) | exact HB.out)⟩

end Go.Proofs.Ytgaccappklhojaa.P
