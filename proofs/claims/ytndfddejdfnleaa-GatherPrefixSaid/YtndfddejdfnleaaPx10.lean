-- Printed for this claim by xprint.py of this session: contracts of this session's own stand in for what the print does not take
import Derived.Test.YtndfddejdfnleaaPx0
import Derived.Test.YtndfddejdfnleaaPx2
import Derived.Test.YtndfddejdfnleaaPx6
import Derived.Test.YtndfddejdfnleaaPx9
namespace Go.Proofs.Ytndfddejdfnleaa.P
open Go.RowKit Go.Proofs.YtndfddejdfnleaaW.PrintWords Go.Proofs.YtndfddejdfnleaaW.PrintLast Go.Proofs.YtndfddejdfnleaaW.PrintMore
attribute [local go_sem] max2_int min2_int max_two min_two max_three min_three max_four min_four   -- for this text's walks alone
set_option linter.unusedVariables false
set_option linter.unusedSimpArgs false

/-! ### gather_Read: function 11 -/
def gather_Read.f (k : Nat) (a0_0 : Int) (l0_1 : List (S41)) (l0_2 : List Int) (a0_3 : Bool) (a0_4 : Int) (a1 : Int) : Option (Int × (List (S41)) × List Int × Bool × Int × List Int × Bool):=(gather_Ready.f k a0_0 l0_1 l0_2 a0_3 a0_4).bind fun t160 => (if 0 ≤ (mx (mn a1 t160) 0) then (if (mx (mn a1 t160) 0) ≤ (l0_2.length : Int) then ((bytes_Clone.f (l0_2.take ((mx (mn a1 t160) 0) : Int).toNat)).bind fun t162 => ((bytes_Clone.f (l0_2.drop ((mx (mn a1 t160) 0) : Int).toNat)).bind fun t166 => ((span_Cut.f l0_1 a0_0 (IntKind.u64.wrap (a0_0 + (IntKind.u64.wrap (mx (mn a1 t160) 0))))).bind fun t169 => (if a0_3 = true then (some (IntKind.u64.wrap (a0_0 + (IntKind.u64.wrap (mx (mn a1 t160) 0))),t169,t166,a0_3,a0_4,t162,((IntKind.u64.wrap (a0_0 + (IntKind.u64.wrap (mx (mn a1 t160) 0)))) == a0_4))) else (some (IntKind.u64.wrap (a0_0 + (IntKind.u64.wrap (mx (mn a1 t160) 0))),t169,t166,a0_3,a0_4,t162,false)))))) else (none)) else (none))
theorem gather_Read.mono : ∀ a0 a1 a2 a3 a4 a5 k,LeO (gather_Read.f k a0 a1 a2 a3 a4 a5) (gather_Read.f (k + 1) a0 a1 a2 a3 a4 a5):=by
 intro a0 a1 a2 a3 a4 a5 k
 unfold gather_Read.f
 repeat' first
   | (with_reducible exact gather_Ready.mono _ _ _ _ _ _)
   | (with_reducible exact LeO.refl _)
   | (with_reducible exact LeO.none _)
   | (with_reducible refine LeO.ite ?_ ?_)
   | (with_reducible refine LeO.bind ?_ (fun _ => ?_))
   | exact gather_Ready.mono _ _ _ _ _ _
   | exact LeO.none _
   | refine LeO.ite ?_ ?_
   | refine LeO.bind ?_ (fun _ => ?_)
def gather_Read.T6 : Bool × List (List Nat × List Nat):=(true,[([],[]),([],[]),([],[]),([2],[2]),([3],[3]),([4],[4]),([5,4],[4,5]),([4],[4]),([7,4],[4,7]),([6,8,4],[4,6,8]),([4,9],[4,9]),([0,4,0],[0]),([1,11,0,1,11],[1]),([10,12,0,1,2,3,4,5,6,7,8,9,10,11,12],[10])])
def gather_Read.B6 : List Nat:=[0,0,0,4,12,28,60,28,156,508,1020,29,2079,8191]
theorem gather_Read.tab6 : rtab .any (opsOf Try.f11 6) = gather_Read.T6:=by kernel_rfl
theorem gather_Read.bits6 : waitsOk gather_Read.T6.2 gather_Read.B6 = true:=by kernel_rfl
set_option maxHeartbeats 8000000 in
set_option maxRecDepth 100000 in
theorem gather_Read.calls (k : Nat) (a0_0 : Int) (A0_1 : Option Addr) (c0_1 : Nat) (l0_1 : List (S41)) (A0_2 : Option Addr) (c0_2 : Nat) (l0_2 : List Int) (a0_3 : Bool) (a0_4 : Int) (a1 : Int) (r1 : Int) (r2 : List (S41)) (r3 : List Int) (r4 : Bool) (r5 : Int) (r6 : List Int) (r7 : Bool) (w : World) (hr0_1 : Kd.C k41 w A0_1 l0_1.length l0_1) (hc0_1 : l0_1.length ≤ c0_1) (hr0_2 : Kd.C (Kd.int .u8) w A0_2 l0_2.length l0_2) (hc0_2 : l0_2.length ≤ c0_2) (h : gather_Read.f k a0_0 l0_1 l0_2 a0_3 a0_4 a1 = some (r1,r2,r3,r4,r5,r6,r7)) :
  Calls Try.prog 11 #[.agg #[.int .u64 a0_0,.slice A0_1 l0_1.length c0_1,.slice A0_2 l0_2.length c0_2,.bool a0_3,.int .u64 a0_4],.int .i64 a1] w fun e w' => ∃ v1_ v2_ v5_ : Value,e = .returned (.tuple #[.agg #[.int .u64 r1,v1_,v2_,.bool r4,.int .u64 r5],v5_,.bool r7]) ∧ Kd.R k41 41 w' w.heap.size (fun _ => True) v1_ r2 ∧ Kd.R (Kd.int .u8) 5 w' w.heap.size (fun k_ => some k_ ≠ (v5_ : Value).ownBlock) v2_ r3 ∧ Kd.R (Kd.int .u8) 5 w' w.heap.size (fun k_ => some k_ ≠ (v2_ : Value).ownBlock) v5_ r6 ∧ Below w.heap.size w w':=by
 have hu28:=Try.underlying28
 have hu41:=Try.underlying41
 have HR0_1:=Aside0.mk hr0_1
 have HC0_1:=Aside0.mk hc0_1
 clear hr0_1 hc0_1
 have HR0_2:=Aside0.mk hr0_2
 have HC0_2:=Aside0.mk hc0_2
 clear hr0_2 hc0_2
 have HB:=Aside0.mk (Below.refl w.heap.size w)
 have H : ((gather_Ready.f k a0_0 l0_1 l0_2 a0_3 a0_4).bind fun t160 => (if 0 ≤ (mx (mn a1 t160) 0) then (if (mx (mn a1 t160) 0) ≤ (l0_2.length : Int) then ((bytes_Clone.f (l0_2.take ((mx (mn a1 t160) 0) : Int).toNat)).bind fun t162 => ((bytes_Clone.f (l0_2.drop ((mx (mn a1 t160) 0) : Int).toNat)).bind fun t166 => ((span_Cut.f l0_1 a0_0 (IntKind.u64.wrap (a0_0 + (IntKind.u64.wrap (mx (mn a1 t160) 0))))).bind fun t169 => (if a0_3 = true then (some (IntKind.u64.wrap (a0_0 + (IntKind.u64.wrap (mx (mn a1 t160) 0))),t169,t166,a0_3,a0_4,t162,((IntKind.u64.wrap (a0_0 + (IntKind.u64.wrap (mx (mn a1 t160) 0)))) == a0_4))) else (some (IntKind.u64.wrap (a0_0 + (IntKind.u64.wrap (mx (mn a1 t160) 0))),t169,t166,a0_3,a0_4,t162,false)))))) else (none)) else (none))) = some (r1,r2,r3,r4,r5,r6,r7):=h
 clear h
 replace H:=Option.bind_eq_some_iff.mp H
 obtain ⟨t160,A30,H⟩:=H
 replace H : (if 0 ≤ (mx (mn a1 t160) 0) then (if (mx (mn a1 t160) 0) ≤ (l0_2.length : Int) then ((bytes_Clone.f (l0_2.take ((mx (mn a1 t160) 0) : Int).toNat)).bind fun t162 => ((bytes_Clone.f (l0_2.drop ((mx (mn a1 t160) 0) : Int).toNat)).bind fun t166 => ((span_Cut.f l0_1 a0_0 (IntKind.u64.wrap (a0_0 + (IntKind.u64.wrap (mx (mn a1 t160) 0))))).bind fun t169 => (if a0_3 = true then (some (IntKind.u64.wrap (a0_0 + (IntKind.u64.wrap (mx (mn a1 t160) 0))),t169,t166,a0_3,a0_4,t162,((IntKind.u64.wrap (a0_0 + (IntKind.u64.wrap (mx (mn a1 t160) 0)))) == a0_4))) else (some (IntKind.u64.wrap (a0_0 + (IntKind.u64.wrap (mx (mn a1 t160) 0))),t169,t166,a0_3,a0_4,t162,false)))))) else (none)) else (none)) = some (r1,r2,r3,r4,r5,r6,r7):=H
 have A3:=Aside0.mk A30
 clear A30
 obtain ⟨ji4,hji4⟩ : ∃ j_ : Int,(mn a1 t160) = j_:=⟨_,rfl⟩
 replace H : (if 0 ≤ (mx (ji4) 0) then (if (mx (ji4) 0) ≤ (l0_2.length : Int) then ((bytes_Clone.f (l0_2.take ((mx (ji4) 0) : Int).toNat)).bind fun t162 => ((bytes_Clone.f (l0_2.drop ((mx (ji4) 0) : Int).toNat)).bind fun t166 => ((span_Cut.f l0_1 a0_0 (IntKind.u64.wrap (a0_0 + (IntKind.u64.wrap (mx (ji4) 0))))).bind fun t169 => (if a0_3 = true then (some (IntKind.u64.wrap (a0_0 + (IntKind.u64.wrap (mx (ji4) 0))),t169,t166,a0_3,a0_4,t162,((IntKind.u64.wrap (a0_0 + (IntKind.u64.wrap (mx (ji4) 0)))) == a0_4))) else (some (IntKind.u64.wrap (a0_0 + (IntKind.u64.wrap (mx (ji4) 0))),t169,t166,a0_3,a0_4,t162,false)))))) else (none)) else (none)) = some (r1,r2,r3,r4,r5,r6,r7):=by first | (rw [hji4] at H;exact H) | (simp only [hji4] at H ⊢;exact H)
 (try rw [hji4] at A3)
 have hji4_ : (if t160 < a1 then t160 else a1) = ji4:=hji4
 obtain ⟨ji5,hji5⟩ : ∃ j_ : Int,(mx (ji4) 0) = j_:=⟨_,rfl⟩
 replace H : (if 0 ≤ (ji5) then (if (ji5) ≤ (l0_2.length : Int) then ((bytes_Clone.f (l0_2.take ((ji5) : Int).toNat)).bind fun t162 => ((bytes_Clone.f (l0_2.drop ((ji5) : Int).toNat)).bind fun t166 => ((span_Cut.f l0_1 a0_0 (IntKind.u64.wrap (a0_0 + (IntKind.u64.wrap (ji5))))).bind fun t169 => (if a0_3 = true then (some (IntKind.u64.wrap (a0_0 + (IntKind.u64.wrap (ji5))),t169,t166,a0_3,a0_4,t162,((IntKind.u64.wrap (a0_0 + (IntKind.u64.wrap (ji5)))) == a0_4))) else (some (IntKind.u64.wrap (a0_0 + (IntKind.u64.wrap (ji5))),t169,t166,a0_3,a0_4,t162,false)))))) else (none)) else (none)) = some (r1,r2,r3,r4,r5,r6,r7):=by first | (rw [hji5] at H;exact H) | (simp only [hji5] at H ⊢;exact H)
 (try rw [hji5] at A3)
 have hji5_ : (if (ji4) < 0 then 0 else (ji4)) = ji5:=hji5
 by_cases c6 : 0 ≤ (ji5)
 ·rw [if_pos c6] at H
  have c6b0:=eq_true c6
  have c6b1 : decide (0 ≤ (ji5)) = true:=decide_eq_true c6
  clear c6
  by_cases c7 : (ji5) ≤ (l0_2.length : Int)
  ·rw [if_pos c7] at H
   have c7b0:=eq_true c7
   have c7b1 : decide ((ji5) ≤ (l0_2.length : Int)) = true:=decide_eq_true c7
   clear c7
   replace H:=Option.bind_eq_some_iff.mp H
   obtain ⟨t162,A80,H⟩:=H
   replace H : ((bytes_Clone.f (l0_2.drop ((ji5) : Int).toNat)).bind fun t166 => ((span_Cut.f l0_1 a0_0 (IntKind.u64.wrap (a0_0 + (IntKind.u64.wrap (ji5))))).bind fun t169 => (if a0_3 = true then (some (IntKind.u64.wrap (a0_0 + (IntKind.u64.wrap (ji5))),t169,t166,a0_3,a0_4,t162,((IntKind.u64.wrap (a0_0 + (IntKind.u64.wrap (ji5)))) == a0_4))) else (some (IntKind.u64.wrap (a0_0 + (IntKind.u64.wrap (ji5))),t169,t166,a0_3,a0_4,t162,false))))) = some (r1,r2,r3,r4,r5,r6,r7):=H
   have A8:=Aside0.mk A80
   clear A80
   have c9b0:=eq_true (of_decide_eq_true (by first | (with_reducible assumption) | assumption) : 0 ≤ (ji5))
   have c10b0:=eq_true (of_decide_eq_true (by first | (with_reducible assumption) | assumption) : (ji5) ≤ (l0_2.length : Int))
   replace H:=Option.bind_eq_some_iff.mp H
   obtain ⟨t166,A110,H⟩:=H
   replace H : ((span_Cut.f l0_1 a0_0 (IntKind.u64.wrap (a0_0 + (IntKind.u64.wrap (ji5))))).bind fun t169 => (if a0_3 = true then (some (IntKind.u64.wrap (a0_0 + (IntKind.u64.wrap (ji5))),t169,t166,a0_3,a0_4,t162,((IntKind.u64.wrap (a0_0 + (IntKind.u64.wrap (ji5)))) == a0_4))) else (some (IntKind.u64.wrap (a0_0 + (IntKind.u64.wrap (ji5))),t169,t166,a0_3,a0_4,t162,false)))) = some (r1,r2,r3,r4,r5,r6,r7):=H
   have A11:=Aside0.mk A110
   clear A110
   replace H:=Option.bind_eq_some_iff.mp H
   obtain ⟨t169,A120,H⟩:=H
   replace H : (if a0_3 = true then (some (IntKind.u64.wrap (a0_0 + (IntKind.u64.wrap (ji5))),t169,t166,a0_3,a0_4,t162,((IntKind.u64.wrap (a0_0 + (IntKind.u64.wrap (ji5)))) == a0_4))) else (some (IntKind.u64.wrap (a0_0 + (IntKind.u64.wrap (ji5))),t169,t166,a0_3,a0_4,t162,false))) = some (r1,r2,r3,r4,r5,r6,r7):=H
   have A12:=Aside0.mk A120
   clear A120
   have HS13:=Aside0.mk H
   clear H
   go_enter Try.func11,Try.ntmps11
   go_upto_region 6 with (first | ((with_reducible refine gate_dst (N:=2) rfl ?_);refine box_event ?hg (N:=2) ?hd (cs:=#[.int .u64 a0_0,.slice A0_1 l0_1.length c0_1,.slice A0_2 l0_2.length c0_2,.bool a0_3,.int .u64 a0_4]) (t:=28) ?hr ?_;(case hd => rfl);(case hg => rfl);(case hr => first | (go_simp;done) | (go_simp;rfl));intro gb158 hg w14 hbox hb;have n0_:=Aside0.mk (below_step (by repeat (first | (with_reducible first | exact HB.out | apply below_alloc | apply pw_below_drewN | apply below_drew1) | exact HB.out)) hb);have n1_:=Aside0.mk (hbox);have n2_:=Aside0.mk ((by rw [hg];exact (below_size (by repeat (first | (with_reducible first | exact HB.out | apply below_alloc | apply pw_below_drewN | apply below_drew1) | exact HB.out))) : w.heap.size ≤ gb158));have n3_:=Aside0.mk ((by rw [hg];exact (below_size (by repeat (first | (with_reducible first | exact HB.out | apply below_alloc | apply pw_below_drewN | apply below_drew1) | exact HB.out))) : w.heap.size ≤ gb158));clear HB;have HB:=n0_;have BK158:=n1_;have GW158:=n2_;have GE158:=n3_;clear n0_ n1_ n2_ n3_;clear hb hbox hg) | ((with_reducible refine gate_dst (N:=4) rfl ?_);refine box_event ?hg (N:=4) ?hd (cs:=#[.int .u64 0,.slice none 0 0,.slice none 0 0,.bool false,.int .u64 0]) (t:=28) ?hr ?_;(case hd => rfl);(case hg => rfl);(case hr => first | (go_simp;done) | (go_simp;rfl));intro gb159 hg w15 hbox hb;have n0_:=Aside0.mk (blk_below (g:=gb158) (o:=.cells #[.int .u64 a0_0,.slice A0_1 l0_1.length c0_1,.slice A0_2 l0_2.length c0_2,.bool a0_3,.int .u64 a0_4] 28 (0,0)) (by (with_reducible repeat (first | refine blk_drewN ?_ _ | refine blk_drew ?_ | refine blk_alloc ?_ _));exact BK158.out) hb);have n1_:=Aside0.mk (below_step (by repeat (first | (with_reducible first | exact HB.out | apply below_alloc | apply pw_below_drewN | apply below_drew1 | refine below_set ?_ GE158.out) | exact HB.out)) hb);have n2_:=Aside0.mk (hbox);have n3_:=Aside0.mk ((by rw [hg];exact (below_size (by repeat (first | (with_reducible first | exact HB.out | apply below_alloc | apply pw_below_drewN | apply below_drew1 | refine below_set ?_ GE158.out) | exact HB.out))) : w.heap.size ≤ gb159));have n4_:=Aside0.mk ((by rw [hg];exact (below_size (by repeat (first | (with_reducible first | exact HB.out | apply below_alloc | apply pw_below_drewN | apply below_drew1 | refine below_set ?_ GE158.out) | exact HB.out))) : w.heap.size ≤ gb159));have n5_:=Aside0.mk ((by rw [hg];exact Nat.ne_of_lt (blk_lt (g:=gb158) (o:=.cells #[.int .u64 a0_0,.slice A0_1 l0_1.length c0_1,.slice A0_2 l0_2.length c0_2,.bool a0_3,.int .u64 a0_4] 28 (0,0)) (by (with_reducible repeat (first | refine blk_drewN ?_ _ | refine blk_drew ?_ | refine blk_alloc ?_ _));exact BK158.out)) : gb158 ≠ gb159));have n6_:=Aside0.mk ((by rw [hg];exact Nat.ne_of_gt (blk_lt (g:=gb158) (o:=.cells #[.int .u64 a0_0,.slice A0_1 l0_1.length c0_1,.slice A0_2 l0_2.length c0_2,.bool a0_3,.int .u64 a0_4] 28 (0,0)) (by (with_reducible repeat (first | refine blk_drewN ?_ _ | refine blk_drew ?_ | refine blk_alloc ?_ _));exact BK158.out)) : gb159 ≠ gb158));clear BK158;clear HB;have BK158:=n0_;have HB:=n1_;have BK159:=n2_;have GW159:=n3_;have GE159:=n4_;have NB158_159:=n5_;have NB159_158:=n6_;clear n0_ n1_ n2_ n3_ n4_ n5_ n6_;clear hb hbox hg;have hnb16:=NB158_159.out;have hnc16:=NB159_158.out;have hcz17_0 : w15.cell? ⟨gb158,0,none⟩ = some (.int .u64 a0_0):=(blk_cell BK158.out 0).trans rfl;have hcz17_1 : w15.cell? ⟨gb158,1,none⟩ = some (.slice A0_1 l0_1.length c0_1):=(blk_cell BK158.out 1).trans rfl;have hcz17_2 : w15.cell? ⟨gb158,2,none⟩ = some (.slice A0_2 l0_2.length c0_2):=(blk_cell BK158.out 2).trans rfl;have hcz17_3 : w15.cell? ⟨gb158,3,none⟩ = some (.bool a0_3):=(blk_cell BK158.out 3).trans rfl;have hcz17_4 : w15.cell? ⟨gb158,4,none⟩ = some (.int .u64 a0_4):=(blk_cell BK158.out 4).trans rfl;have hfz17_0:=blk_frozen BK158.out 0;have hfz17_1:=blk_frozen BK158.out 1;have hfz17_2:=blk_frozen BK158.out 2;have hfz17_3:=blk_frozen BK158.out 3;have hfz17_4:=blk_frozen BK158.out 4) | ((with_reducible refine gate_callee (f:=15) rfl ?_);refine goesL_ (some 10) rfl rfl Try.func15 (by kernel_rfl) rfl #[.agg #[.int .u64 a0_0,.slice A0_1 l0_1.length c0_1,.slice A0_2 l0_2.length c0_2,.bool a0_3,.int .u64 a0_4]] rfl (by (try simp only [List.map_toArray,List.map_cons,List.map_nil]);first | done | rfl | (simp only [List.length_drop,List.length_take];rfl)) ?_;(with_reducible refine (gather_Ready.calls k a0_0 _ _ l0_1 _ _ l0_2 a0_3 a0_4 t160 _ ?side1 ?side2 ?side3 ?side4 A3.out).mono ?_);(case side1 => repeat (first | exact (Kd.C_below HR0_1.out HB.out) | (with_reducible refine Kd.C_alloc ?_ _) | (with_reducible refine Kd.C_drewN ?_ _) | (with_reducible refine Kd.C_drew ?_)));(case side2 => exact HC0_1.out);(case side3 => repeat (first | exact (Kd.C_below HR0_2.out HB.out) | (with_reducible refine Kd.C_alloc ?_ _) | (with_reducible refine Kd.C_drewN ?_ _) | (with_reducible refine Kd.C_drew ?_)));(case side4 => exact HC0_2.out);rintro e w18 ⟨rfl,hb⟩;refine ⟨_,rfl,?_⟩;have n0_:=Aside0.mk (blk_below (g:=gb158) (o:=.cells #[.int .u64 a0_0,.slice A0_1 l0_1.length c0_1,.slice A0_2 l0_2.length c0_2,.bool a0_3,.int .u64 a0_4] 28 (0,0)) (by (with_reducible repeat (first | refine blk_drewN ?_ _ | refine blk_drew ?_ | refine blk_alloc ?_ _));exact BK158.out) hb);have n1_:=Aside0.mk (blk_below (g:=gb159) (o:=.cells #[.int .u64 0,.slice none 0 0,.slice none 0 0,.bool false,.int .u64 0] 28 (0,0)) (by (with_reducible repeat (first | refine blk_drewN ?_ _ | refine blk_drew ?_ | refine blk_alloc ?_ _));exact BK159.out) hb);have n2_:=Aside0.mk (below_step (by repeat (first | (with_reducible first | exact HB.out | apply below_alloc | apply pw_below_drewN | apply below_drew1 | refine below_set ?_ GE158.out | refine below_set ?_ GE159.out) | exact HB.out)) hb);clear BK158;clear BK159;clear HB;have BK158:=n0_;have BK159:=n1_;have HB:=n2_;clear n0_ n1_ n2_;(try clear hb);(try clear hb2);(try clear hk);(try clear hi);have hcz19_0 : w18.cell? ⟨gb158,0,none⟩ = some (.int .u64 a0_0):=(blk_cell BK158.out 0).trans rfl;have hcz19_1 : w18.cell? ⟨gb158,1,none⟩ = some (.slice A0_1 l0_1.length c0_1):=(blk_cell BK158.out 1).trans rfl;have hcz19_2 : w18.cell? ⟨gb158,2,none⟩ = some (.slice A0_2 l0_2.length c0_2):=(blk_cell BK158.out 2).trans rfl;have hcz19_3 : w18.cell? ⟨gb158,3,none⟩ = some (.bool a0_3):=(blk_cell BK158.out 3).trans rfl;have hcz19_4 : w18.cell? ⟨gb158,4,none⟩ = some (.int .u64 a0_4):=(blk_cell BK158.out 4).trans rfl;have hfz19_0:=blk_frozen BK158.out 0;have hfz19_1:=blk_frozen BK158.out 1;have hfz19_2:=blk_frozen BK158.out 2;have hfz19_3:=blk_frozen BK158.out 3;have hfz19_4:=blk_frozen BK158.out 4;obtain ⟨i020,hi020,_,hsz20,_⟩:=info_parts info5;obtain ⟨hcut20,hA20,hC20⟩:=print_take_of (P:=Try.prog) (Value.int .u8) 0 23 5 .i64 Try.underlying23 hi020 hsz20 A0_2 c0_2 l0_2 (ji5) (of_decide_eq_true (by first | (with_reducible assumption) | assumption)) (of_decide_eq_true (by first | (with_reducible assumption) | assumption)) HC0_2.out;have HR161:=Aside0.mk (Kd.C_of_reads (h1:=fun _ => rfl) (hA20 _ (Kd.reads_of_C HR0_2.out)));have HC161:=Aside0.mk hC20;clear hA20 hC20 hi020 hsz20) | ((with_reducible refine gate_callee (f:=20) rfl ?_);refine goesL_ (some 17) rfl rfl Try.func20 (by kernel_rfl) rfl #[.slice A0_2 (l0_2.take ((ji5) : Int).toNat).length c0_2] rfl (by (try simp only [List.map_toArray,List.map_cons,List.map_nil]);first | done | (rw [show (l0_2.take ((ji5) : Int).toNat).length = (ji5).toNat from (by rw [List.length_take];have h_ : ((ji5) : Int) ≤ (l0_2.length : Int):=of_decide_eq_true (by first | (with_reducible assumption) | assumption);omega)] <;> rfl) | (simp only [hji5];rfl) | rfl | (simp only [List.length_drop,List.length_take];rfl)) ?_;(with_reducible refine (bytes_Clone.calls _ _ (l0_2.take ((ji5) : Int).toNat) t162 _ ?side1 ?side2 A8.out).mono ?_);(case side1 => repeat (first | exact (Kd.C_below HR161.out HB.out) | (with_reducible refine Kd.C_alloc ?_ _) | (with_reducible refine Kd.C_drewN ?_ _) | (with_reducible refine Kd.C_drew ?_)));(case side2 => exact HC161.out);rintro e w21 ⟨v163,rfl,ho0,hb⟩;refine ⟨_,rfl,?_⟩;have n0_:=Aside0.mk (Kd.R_lower ho0 (below_size (by repeat (first | (with_reducible first | exact HB.out | apply below_alloc | apply pw_below_drewN | apply below_drew1 | refine below_set ?_ GE158.out | refine below_set ?_ GE159.out) | exact HB.out))));have n1_:=Aside0.mk (blk_below (g:=gb158) (o:=.cells #[.int .u64 a0_0,.slice A0_1 l0_1.length c0_1,.slice A0_2 l0_2.length c0_2,.bool a0_3,.int .u64 a0_4] 28 (0,0)) (by (with_reducible repeat (first | refine blk_drewN ?_ _ | refine blk_drew ?_ | refine blk_alloc ?_ _));exact BK158.out) hb);have n2_:=Aside0.mk (blk_below (g:=gb159) (o:=.cells #[.int .u64 0,.slice none 0 0,.slice none 0 0,.bool false,.int .u64 0] 28 (0,0)) (by (with_reducible repeat (first | refine blk_drewN ?_ _ | refine blk_drew ?_ | refine blk_alloc ?_ _));exact BK159.out) hb);have n3_:=Aside0.mk (below_step (by repeat (first | (with_reducible first | exact HB.out | apply below_alloc | apply pw_below_drewN | apply below_drew1 | refine below_set ?_ GE158.out | refine below_set ?_ GE159.out) | exact HB.out)) hb);clear BK158;clear BK159;clear HB;have HO164:=n0_;have BK158:=n1_;have BK159:=n2_;have HB:=n3_;clear n0_ n1_ n2_ n3_;(try clear hb);(try clear hb2);(try clear hk);(try clear hi);(try clear ho0);have hcz22_0 : w21.cell? ⟨gb158,0,none⟩ = some (.int .u64 a0_0):=(blk_cell BK158.out 0).trans rfl;have hcz22_1 : w21.cell? ⟨gb158,1,none⟩ = some (.slice A0_1 l0_1.length c0_1):=(blk_cell BK158.out 1).trans rfl;have hcz22_2 : w21.cell? ⟨gb158,2,none⟩ = some (.slice A0_2 l0_2.length c0_2):=(blk_cell BK158.out 2).trans rfl;have hcz22_3 : w21.cell? ⟨gb158,3,none⟩ = some (.bool a0_3):=(blk_cell BK158.out 3).trans rfl;have hcz22_4 : w21.cell? ⟨gb158,4,none⟩ = some (.int .u64 a0_4):=(blk_cell BK158.out 4).trans rfl;have hfz22_0:=blk_frozen BK158.out 0;have hfz22_1:=blk_frozen BK158.out 1;have hfz22_2:=blk_frozen BK158.out 2;have hfz22_3:=blk_frozen BK158.out 3;have hfz22_4:=blk_frozen BK158.out 4;obtain ⟨i023,hi023,_,hsz23,_⟩:=info_parts info5;obtain ⟨A23,hcut23,hA23,hC23⟩:=print_drop_of (P:=Try.prog) (Value.int .u8) 0 23 5 .i64 Try.underlying23 hi023 hsz23 A0_2 c0_2 l0_2 (ji5) (of_decide_eq_true (by first | (with_reducible assumption) | assumption)) (of_decide_eq_true (by first | (with_reducible assumption) | assumption)) HC0_2.out;have HR165:=Aside0.mk (Kd.C_of_reads (h1:=fun _ => rfl) (hA23 _ (Kd.reads_of_C HR0_2.out)));have HC165:=Aside0.mk hC23;clear hA23 hC23 hi023 hsz23) | ((with_reducible refine gate_callee (f:=20) rfl ?_);refine goesL_ (some 22) rfl rfl Try.func20 (by kernel_rfl) rfl #[.slice A23 (l0_2.drop ((ji5) : Int).toNat).length (c0_2 - (ji5).toNat)] rfl (by (try simp only [List.map_toArray,List.map_cons,List.map_nil]);first | done | (rw [show (l0_2.drop ((ji5) : Int).toNat).length = (l0_2.length - (ji5).toNat) from List.length_drop] <;> rfl) | (simp only [hji5];rfl) | rfl | (simp only [List.length_drop,List.length_take];rfl)) ?_;(with_reducible refine (bytes_Clone.calls _ _ (l0_2.drop ((ji5) : Int).toNat) t166 _ ?side1 ?side2 A11.out).mono ?_);(case side1 => repeat (first | exact (Kd.C_below HR165.out HB.out) | (with_reducible refine Kd.C_alloc ?_ _) | (with_reducible refine Kd.C_drewN ?_ _) | (with_reducible refine Kd.C_drew ?_)));(case side2 => exact HC165.out);rintro e w24 ⟨v167,rfl,ho0,hb⟩;refine ⟨_,rfl,?_⟩;have n0_:=Aside0.mk (Kd.R_elder' (by (with_reducible repeat (first | apply Kd.R_alloc | apply Kd.R_drewN | apply Kd.R_drew));exact HO164.out) (Kd.R_base ho0) hb);have n1_:=Aside0.mk (Kd.R_lower (Kd.R_new' ho0 (Kd.R_lt (by (with_reducible repeat (first | apply Kd.R_alloc | apply Kd.R_drewN | apply Kd.R_drew));exact HO164.out))) (below_size (by repeat (first | (with_reducible first | exact HB.out | apply below_alloc | apply pw_below_drewN | apply below_drew1 | refine below_set ?_ GE158.out | refine below_set ?_ GE159.out) | exact HB.out))));have n2_:=Aside0.mk (blk_below (g:=gb158) (o:=.cells #[.int .u64 a0_0,.slice A0_1 l0_1.length c0_1,.slice A0_2 l0_2.length c0_2,.bool a0_3,.int .u64 a0_4] 28 (0,0)) (by (with_reducible repeat (first | refine blk_drewN ?_ _ | refine blk_drew ?_ | refine blk_alloc ?_ _));exact BK158.out) hb);have n3_:=Aside0.mk (blk_below (g:=gb159) (o:=.cells #[.int .u64 0,.slice none 0 0,.slice none 0 0,.bool false,.int .u64 0] 28 (0,0)) (by (with_reducible repeat (first | refine blk_drewN ?_ _ | refine blk_drew ?_ | refine blk_alloc ?_ _));exact BK159.out) hb);have n4_:=Aside0.mk (below_step (by repeat (first | (with_reducible first | exact HB.out | apply below_alloc | apply pw_below_drewN | apply below_drew1 | refine below_set ?_ GE158.out | refine below_set ?_ GE159.out) | exact HB.out)) hb);clear HO164;clear BK158;clear BK159;clear HB;have HO164:=n0_;have HO168:=n1_;have BK158:=n2_;have BK159:=n3_;have HB:=n4_;clear n0_ n1_ n2_ n3_ n4_;(try clear hb);(try clear hb2);(try clear hk);(try clear hi);(try clear ho0);obtain ⟨Ao25,co25,eo25⟩:=Kd.R_slice HO168.out;subst eo25;have hcz26_0 : w24.cell? ⟨gb158,0,none⟩ = some (.int .u64 a0_0):=(blk_cell BK158.out 0).trans rfl;have hcz26_1 : w24.cell? ⟨gb158,1,none⟩ = some (.slice A0_1 l0_1.length c0_1):=(blk_cell BK158.out 1).trans rfl;have hcz26_2 : w24.cell? ⟨gb158,2,none⟩ = some (.slice A0_2 l0_2.length c0_2):=(blk_cell BK158.out 2).trans rfl;have hcz26_3 : w24.cell? ⟨gb158,3,none⟩ = some (.bool a0_3):=(blk_cell BK158.out 3).trans rfl;have hcz26_4 : w24.cell? ⟨gb158,4,none⟩ = some (.int .u64 a0_4):=(blk_cell BK158.out 4).trans rfl;have hfz26_0:=blk_frozen BK158.out 0;have hfz26_1:=blk_frozen BK158.out 1;have hfz26_2:=blk_frozen BK158.out 2;have hfz26_3:=blk_frozen BK158.out 3;have hfz26_4:=blk_frozen BK158.out 4) | ((with_reducible refine gate_callee (f:=18) rfl ?_);refine goesL_ (some 34) rfl rfl Try.func18 (by kernel_rfl) rfl #[.slice A0_1 l0_1.length c0_1,.agg #[.int .u64 a0_0,.int .u64 (IntKind.u64.wrap (a0_0 + (IntKind.u64.wrap (ji5))))]] rfl (by (try simp only [List.map_toArray,List.map_cons,List.map_nil]);first | done | (simp only [hji5];rfl) | rfl | (simp only [List.length_drop,List.length_take];rfl)) ?_;(with_reducible refine (span_Cut.calls _ _ l0_1 a0_0 (IntKind.u64.wrap (a0_0 + (IntKind.u64.wrap (ji5)))) t169 _ ?side1 ?side2 A12.out).mono ?_);(case side1 => exact Kd.C_below HR0_1.out (by repeat (first | (with_reducible first | exact HB.out | apply below_alloc | apply pw_below_drewN | apply below_drew1 | refine below_set ?_ GE158.out | refine below_set ?_ GE159.out) | exact HB.out)));(case side2 => exact HC0_1.out);rintro e w27 ⟨v170,rfl,ho0,hb⟩;refine ⟨_,rfl,?_⟩;have n0_:=Aside0.mk (Kd.R_below (by (with_reducible repeat (first | apply Kd.R_alloc | apply Kd.R_drewN | apply Kd.R_drew));exact (Kd.R_mono (Kd.R_far (p:=⟨gb158,2,none⟩) (Kd.R_types HO164.out BK158.out (by decide)) (fun _ hk => hk.2) (.slice Ao25 t166.length co25)) (fun _ h_ => h_.1))) hb);have n1_:=Aside0.mk (Kd.R_below (by (with_reducible repeat (first | apply Kd.R_alloc | apply Kd.R_drewN | apply Kd.R_drew));exact (Kd.R_mono (Kd.R_far (p:=⟨gb158,2,none⟩) (Kd.R_types HO168.out BK158.out (by decide)) (fun _ hk => hk.2) (.slice Ao25 t166.length co25)) (fun _ h_ => h_.1))) hb);have n2_:=Aside0.mk (Kd.R_lower ho0 (below_size (by repeat (first | (with_reducible first | exact HB.out | apply below_alloc | apply pw_below_drewN | apply below_drew1 | refine below_set ?_ GE158.out | refine below_set ?_ GE159.out) | exact HB.out))));have n3_:=Aside0.mk (blk_below (g:=gb158) (o:=.cells #[.int .u64 a0_0,.slice A0_1 l0_1.length c0_1,.slice Ao25 t166.length co25,.bool a0_3,.int .u64 a0_4] 28 (0,0)) (by (with_reducible repeat (first | refine blk_drewN ?_ _ | refine blk_drew ?_ | refine blk_alloc ?_ _));refine blk_put (cs:=#[.int .u64 a0_0,.slice A0_1 l0_1.length c0_1,.slice A0_2 l0_2.length c0_2,.bool a0_3,.int .u64 a0_4]) ?_ 2 _ rfl;(with_reducible repeat (first | refine blk_drewN ?_ _ | refine blk_drew ?_ | refine blk_alloc ?_ _));exact BK158.out) hb);have n4_:=Aside0.mk (blk_below (g:=gb159) (o:=.cells #[.int .u64 0,.slice none 0 0,.slice none 0 0,.bool false,.int .u64 0] 28 (0,0)) (by (with_reducible repeat (first | refine blk_drewN ?_ _ | refine blk_drew ?_ | refine blk_alloc ?_ _));refine blk_far ?_ NB159_158.out _;(with_reducible repeat (first | refine blk_drewN ?_ _ | refine blk_drew ?_ | refine blk_alloc ?_ _));exact BK159.out) hb);have n5_:=Aside0.mk (below_step (by repeat (first | (with_reducible first | exact HB.out | apply below_alloc | apply pw_below_drewN | apply below_drew1 | refine below_set ?_ GE158.out | refine below_set ?_ GE159.out) | exact HB.out)) hb);clear HO164;clear HO168;clear BK158;clear BK159;clear HB;have HO164:=n0_;have HO168:=n1_;have HO171:=n2_;have BK158:=n3_;have BK159:=n4_;have HB:=n5_;clear n0_ n1_ n2_ n3_ n4_ n5_;(try clear hb);(try clear hb2);(try clear hk);(try clear hi);(try clear ho0);obtain ⟨Ao28,co28,eo28⟩:=Kd.R_slice HO171.out;subst eo28;have hcz29_0 : w27.cell? ⟨gb158,0,none⟩ = some (.int .u64 a0_0):=(blk_cell BK158.out 0).trans rfl;have hcz29_1 : w27.cell? ⟨gb158,1,none⟩ = some (.slice A0_1 l0_1.length c0_1):=(blk_cell BK158.out 1).trans rfl;have hcz29_2 : w27.cell? ⟨gb158,2,none⟩ = some (.slice Ao25 t166.length co25):=(blk_cell BK158.out 2).trans rfl;have hcz29_3 : w27.cell? ⟨gb158,3,none⟩ = some (.bool a0_3):=(blk_cell BK158.out 3).trans rfl;have hcz29_4 : w27.cell? ⟨gb158,4,none⟩ = some (.int .u64 a0_4):=(blk_cell BK158.out 4).trans rfl;have hfz29_0:=blk_frozen BK158.out 0;have hfz29_1:=blk_frozen BK158.out 1;have hfz29_2:=blk_frozen BK158.out 2;have hfz29_3:=blk_frozen BK158.out 3;have hfz29_4:=blk_frozen BK158.out 4))
   (try simp only [Act.put,List.setIfInBounds_toArray,List.set_cons_zero,List.set_cons_succ])
   have H:=HS13.out
   clear HS13
   by_cases c30 : a0_3 = true
   ·subst c30
    have H1 : (some (IntKind.u64.wrap (a0_0 + (IntKind.u64.wrap (ji5))),t169,t166,true,a0_4,t162,((IntKind.u64.wrap (a0_0 + (IntKind.u64.wrap (ji5)))) == a0_4))) = some (r1,r2,r3,r4,r5,r6,r7):=by rw [if_pos rfl] at H;exact H
    clear H
    have H:=H1
    clear H1
    simp only [Option.some.injEq,Prod.mk.injEq] at H
    obtain ⟨rfl,rfl,rfl,rfl,rfl,rfl,rfl⟩:=H
    try go_wp2
    have n0_ : Aside0 (Kd.R (Kd.int .u8) 5 ((w27.setCell ⟨gb158,1,none⟩ (.slice Ao28 t169.length co28)).setCell ⟨gb158,0,none⟩ (.int .u64 (IntKind.u64.wrap (a0_0 + (IntKind.u64.wrap (ji5)))))) w.heap.size (fun k_ => some k_ ≠ (.slice Ao25 t166.length co25 : Value).ownBlock) v163 t162):=⟨by (with_reducible repeat (first | apply Kd.R_alloc | apply Kd.R_drewN | apply Kd.R_drew));exact Kd.R_mono (Kd.R_far (p:=⟨gb158,0,none⟩) (Kd.R_far (p:=⟨gb158,1,none⟩) (Kd.R_types HO164.out BK158.out (by decide)) (fun _ hk => hk.2) (.slice Ao28 t169.length co28)) (fun _ hk => hk.2) (.int .u64 (IntKind.u64.wrap (a0_0 + (IntKind.u64.wrap (ji5)))))) (fun _ hk => hk.1.2)⟩
    have n1_ : Aside0 (Kd.R (Kd.int .u8) 5 ((w27.setCell ⟨gb158,1,none⟩ (.slice Ao28 t169.length co28)).setCell ⟨gb158,0,none⟩ (.int .u64 (IntKind.u64.wrap (a0_0 + (IntKind.u64.wrap (ji5)))))) w.heap.size (fun k_ => some k_ ≠ (v163 : Value).ownBlock) (.slice Ao25 t166.length co25) t166):=⟨by (with_reducible repeat (first | apply Kd.R_alloc | apply Kd.R_drewN | apply Kd.R_drew));exact Kd.R_mono (Kd.R_far (p:=⟨gb158,0,none⟩) (Kd.R_far (p:=⟨gb158,1,none⟩) (Kd.R_types HO168.out BK158.out (by decide)) (fun _ hk => hk.2) (.slice Ao28 t169.length co28)) (fun _ hk => hk.2) (.int .u64 (IntKind.u64.wrap (a0_0 + (IntKind.u64.wrap (ji5)))))) (fun _ hk => hk.1.2)⟩
    have n2_ : Aside0 (Kd.R k41 41 ((w27.setCell ⟨gb158,1,none⟩ (.slice Ao28 t169.length co28)).setCell ⟨gb158,0,none⟩ (.int .u64 (IntKind.u64.wrap (a0_0 + (IntKind.u64.wrap (ji5)))))) w.heap.size (fun _ => True) (.slice Ao28 t169.length co28) t169):=⟨by (with_reducible repeat (first | apply Kd.R_alloc | apply Kd.R_drewN | apply Kd.R_drew));exact Kd.R_mono (Kd.R_far (p:=⟨gb158,0,none⟩) (Kd.R_far (p:=⟨gb158,1,none⟩) (Kd.R_types HO171.out BK158.out (by decide)) (fun _ hk => hk.2) (.slice Ao28 t169.length co28)) (fun _ hk => hk.2) (.int .u64 (IntKind.u64.wrap (a0_0 + (IntKind.u64.wrap (ji5)))))) (fun _ hk => trivial)⟩
    have n3_ : Aside0 (((w27.setCell ⟨gb158,1,none⟩ (.slice Ao28 t169.length co28)).setCell ⟨gb158,0,none⟩ (.int .u64 (IntKind.u64.wrap (a0_0 + (IntKind.u64.wrap (ji5)))))).heap[gb158]? = some (.cells #[.int .u64 (IntKind.u64.wrap (a0_0 + (IntKind.u64.wrap (ji5)))),.slice Ao28 t169.length co28,.slice Ao25 t166.length co25,.bool true,.int .u64 a0_4] 28 (0,0))):=⟨by (with_reducible repeat (first | refine blk_drewN ?_ _ | refine blk_drew ?_ | refine blk_alloc ?_ _));refine blk_put (cs:=#[.int .u64 a0_0,.slice Ao28 t169.length co28,.slice Ao25 t166.length co25,.bool true,.int .u64 a0_4]) ?_ 0 _ rfl;(with_reducible repeat (first | refine blk_drewN ?_ _ | refine blk_drew ?_ | refine blk_alloc ?_ _));refine blk_put (cs:=#[.int .u64 a0_0,.slice A0_1 l0_1.length c0_1,.slice Ao25 t166.length co25,.bool true,.int .u64 a0_4]) ?_ 1 _ rfl;(with_reducible repeat (first | refine blk_drewN ?_ _ | refine blk_drew ?_ | refine blk_alloc ?_ _));exact BK158.out⟩
    have n4_ : Aside0 (((w27.setCell ⟨gb158,1,none⟩ (.slice Ao28 t169.length co28)).setCell ⟨gb158,0,none⟩ (.int .u64 (IntKind.u64.wrap (a0_0 + (IntKind.u64.wrap (ji5)))))).heap[gb159]? = some (.cells #[.int .u64 0,.slice none 0 0,.slice none 0 0,.bool false,.int .u64 0] 28 (0,0))):=⟨by (with_reducible repeat (first | refine blk_drewN ?_ _ | refine blk_drew ?_ | refine blk_alloc ?_ _));refine blk_far ?_ NB159_158.out _;(with_reducible repeat (first | refine blk_drewN ?_ _ | refine blk_drew ?_ | refine blk_alloc ?_ _));refine blk_far ?_ NB159_158.out _;(with_reducible repeat (first | refine blk_drewN ?_ _ | refine blk_drew ?_ | refine blk_alloc ?_ _));exact BK159.out⟩
    have n5_ : Aside0 (Below w.heap.size w ((w27.setCell ⟨gb158,1,none⟩ (.slice Ao28 t169.length co28)).setCell ⟨gb158,0,none⟩ (.int .u64 (IntKind.u64.wrap (a0_0 + (IntKind.u64.wrap (ji5))))))):=⟨by repeat (first | (with_reducible first | exact HB.out | apply below_alloc | apply pw_below_drewN | apply below_drew1 | refine below_set ?_ GE158.out | refine below_set ?_ GE159.out) | exact HB.out)⟩
    (try clear HO164)
    (try clear HO168)
    (try clear HO171)
    (try clear BK158)
    (try clear BK159)
    (try clear HB)
    generalize ((w27.setCell ⟨gb158,1,none⟩ (.slice Ao28 t169.length co28)).setCell ⟨gb158,0,none⟩ (.int .u64 (IntKind.u64.wrap (a0_0 + (IntKind.u64.wrap (ji5)))))) = w31 at n0_ n1_ n2_ n3_ n4_ n5_ ⊢
    have HO164:=n0_
    have HO168:=n1_
    have HO171:=n2_
    have BK158:=n3_
    have BK159:=n4_
    have HB:=n5_
    clear n0_ n1_ n2_ n3_ n4_ n5_
    have n0_:=Aside0.mk (Kd.R_drew HO164.out)
    have n1_:=Aside0.mk (Kd.R_drew HO168.out)
    have n2_:=Aside0.mk (Kd.R_drew HO171.out)
    have n3_:=Aside0.mk (blk_drew BK158.out)
    have n4_:=Aside0.mk (blk_drew BK159.out)
    have n5_:=Aside0.mk (below_drew1 HB.out)
    clear HO164
    clear HO168
    clear HO171
    clear BK158
    clear BK159
    clear HB
    have HO164:=n0_
    have HO168:=n1_
    have HO171:=n2_
    have BK158:=n3_
    have BK159:=n4_
    have HB:=n5_
    clear n0_ n1_ n2_ n3_ n4_ n5_
    refine start_ (n:=14) (S:=fun w' => w'.cell? ⟨gb158,0,none⟩ = some (.int .u64 (IntKind.u64.wrap (a0_0 + (IntKind.u64.wrap (ji5))))) ∧ w'.cell? ⟨gb158,1,none⟩ = some (.slice Ao28 t169.length co28) ∧ w'.cell? ⟨gb158,2,none⟩ = some (.slice Ao25 t166.length co25) ∧ w'.cell? ⟨gb158,3,none⟩ = some (.bool true) ∧ w'.cell? ⟨gb158,4,none⟩ = some (.int .u64 a0_4)) (ds:=[]) #[false,false,false,false,false,false,false,false,false,false,false,false,false,false] (by kernel_rfl) rfl rfl ⟨(blk_cell BK158.out 0).trans rfl,(blk_cell BK158.out 1).trans rfl,(blk_cell BK158.out 2).trans rfl,(blk_cell BK158.out 3).trans rfl,(blk_cell BK158.out 4).trans rfl⟩ (fun hHeld => ?_);refine with_tabW gather_Read.tab6 gather_Read.bits6 (fun HT_ HW_ => ?_)
    generalize w31.drew = w32 at HO164 HO168 HO171 BK158 BK159 HB hHeld ⊢
    refine pure_ (i:=1) (N:=some 43) (v:=?_) (a':=?_) #[false,true,false,false,false,false,false,false,false,false,false,false,false,false] rfl rfl (any_of HT_.out (by kernel_rfl)) (fun _ _ _ h => h) (Or.inl ⟨by rfl,?_⟩) ?_ ?_
    rotate_left
    ·intro w'
     go_simp
     with_reducible rfl
    rotate_left
    ·simp only [Act.put,List.setIfInBounds_toArray,List.set_cons_zero,List.set_cons_succ,i64_w,i32_w]
     rfl
    refine pure_ (i:=2) (N:=some 44) (v:=?_) (a':=?_) #[false,true,true,false,false,false,false,false,false,false,false,false,false,false] rfl rfl (any_of HT_.out (by kernel_rfl)) (fun _ _ _ h => h) (Or.inl ⟨by rfl,?_⟩) ?_ ?_
    rotate_left
    ·intro w'
     go_simp
     with_reducible rfl
    rotate_left
    ·simp only [Act.put,List.setIfInBounds_toArray,List.set_cons_zero,List.set_cons_succ,i64_w,i32_w]
     rfl
    refine take_ (i:=0) (N:=some 42) (v:=?_) (a':=?_) #[true,true,true,false,false,false,false,false,false,false,false,false,false,false] rfl rfl (take_ofW HT_.out HW_.out (by kernel_rfl)) (fun _ _ _ h => h) (Or.inl ⟨by rfl,?_⟩) hHeld ?_ ?_
    rotate_left
    ·rintro w' ⟨s0,s1,s2,s3,s4⟩
     go_simp
     with_reducible rfl
    rotate_left
    ·simp only [Act.put,List.setIfInBounds_toArray,List.set_cons_zero,List.set_cons_succ,i64_w,i32_w]
     rfl
    refine take_ (i:=3) (N:=some 45) (v:=?_) (a':=?_) #[true,true,true,true,false,false,false,false,false,false,false,false,false,false] rfl rfl (take_ofW HT_.out HW_.out (by kernel_rfl)) (fun _ _ _ h => h) (Or.inl ⟨by rfl,?_⟩) hHeld ?_ ?_
    rotate_left
    ·rintro w' ⟨s0,s1,s2,s3,s4⟩
     go_simp
     with_reducible rfl
    rotate_left
    ·simp only [Act.put,List.setIfInBounds_toArray,List.set_cons_zero,List.set_cons_succ,i64_w,i32_w]
     rfl
    refine pure_ (i:=4) (N:=some 46) (v:=?_) (a':=?_) #[true,true,true,true,true,false,false,false,false,false,false,false,false,false] rfl rfl (any_of HT_.out (by kernel_rfl)) (fun _ _ _ h => h) (Or.inl ⟨by rfl,?_⟩) ?_ ?_
    rotate_left
    ·intro w'
     go_simp
     with_reducible rfl
    rotate_left
    ·simp only [Act.put,List.setIfInBounds_toArray,List.set_cons_zero,List.set_cons_succ,i64_w,i32_w]
     rfl
    refine pure_ (i:=5) (N:=some 47) (v:=?_) (a':=?_) #[true,true,true,true,true,true,false,false,false,false,false,false,false,false] rfl rfl (any_of HT_.out (by kernel_rfl)) (fun _ _ _ h => h) (Or.inl ⟨by rfl,?_⟩) ?_ ?_
    rotate_left
    ·intro w'
     go_simp
     with_reducible rfl
    rotate_left
    ·simp only [Act.put,List.setIfInBounds_toArray,List.set_cons_zero,List.set_cons_succ,i64_w,i32_w]
     rfl
    refine pure_ (i:=7) (N:=some 49) (v:=?_) (a':=?_) #[true,true,true,true,true,true,false,true,false,false,false,false,false,false] rfl rfl (any_of HT_.out (by kernel_rfl)) (fun _ _ _ h => h) (Or.inl ⟨by rfl,?_⟩) ?_ ?_
    rotate_left
    ·intro w'
     go_simp
     with_reducible rfl
    rotate_left
    ·simp only [Act.put,List.setIfInBounds_toArray,List.set_cons_zero,List.set_cons_succ,i64_w,i32_w]
     rfl
    refine take_ (i:=6) (N:=some 48) (v:=?_) (a':=?_) #[true,true,true,true,true,true,true,true,false,false,false,false,false,false] rfl rfl (take_ofW HT_.out HW_.out (by kernel_rfl)) (fun _ _ _ h => h) (Or.inl ⟨by rfl,?_⟩) hHeld ?_ ?_
    rotate_left
    ·rintro w' ⟨s0,s1,s2,s3,s4⟩
     go_simp
     with_reducible rfl
    rotate_left
    ·simp only [Act.put,List.setIfInBounds_toArray,List.set_cons_zero,List.set_cons_succ,i64_w,i32_w]
     rfl
    refine take_ (i:=8) (N:=some 50) (v:=?_) (a':=?_) #[true,true,true,true,true,true,true,true,true,false,false,false,false,false] rfl rfl (take_ofW HT_.out HW_.out (by kernel_rfl)) (fun _ _ _ h => h) (Or.inl ⟨by rfl,?_⟩) hHeld ?_ ?_
    rotate_left
    ·rintro w' ⟨s0,s1,s2,s3,s4⟩
     go_simp
     with_reducible rfl
    rotate_left
    ·simp only [Act.put,List.setIfInBounds_toArray,List.set_cons_zero,List.set_cons_succ,i64_w,i32_w]
     rfl
    refine pure_ (i:=9) (N:=some 51) (v:=?_) (a':=?_) #[true,true,true,true,true,true,true,true,true,true,false,false,false,false] rfl rfl (any_of HT_.out (by kernel_rfl)) (fun _ _ _ h => h) (Or.inl ⟨by rfl,?_⟩) ?_ ?_
    rotate_left
    ·intro w'
     go_simp
     with_reducible rfl
    rotate_left
    ·simp only [Act.put,List.setIfInBounds_toArray,List.set_cons_zero,List.set_cons_succ,i64_w,i32_w]
     rfl
    refine pure_ (i:=10) (N:=some 52) (v:=?_) (a':=?_) #[true,true,true,true,true,true,true,true,true,true,true,false,false,false] rfl rfl (any_of HT_.out (by kernel_rfl)) (fun _ _ _ h => h) (Or.inl ⟨by rfl,?_⟩) ?_ ?_
    rotate_left
    ·intro w'
     go_simp
     with_reducible rfl
    rotate_left
    ·simp only [Act.put,List.setIfInBounds_toArray,List.set_cons_zero,List.set_cons_succ,i64_w,i32_w]
     rfl
    refine one_ (i:=11) (N:=none) #[true,true,true,true,true,true,true,true,true,true,true,true,false,false] rfl rfl (one_of HT_.out (by kernel_rfl)) (by decide) (fun K hK => ?_)
    have hs33 : w32.cell? ⟨gb159,0,none⟩ = some (.int .u64 0):=(blk_cell BK159.out 0).trans rfl
    have hfs33:=blk_frozen BK159.out 0
    have hns33_0:=NB158_159.out
    have hms33_0:=NB159_158.out
    have hs34 : w32.cell? ⟨gb159,1,none⟩ = some (.slice none 0 0):=(blk_cell BK159.out 1).trans rfl
    have hfs34:=blk_frozen BK159.out 1
    have hns34_0:=NB158_159.out
    have hms34_0:=NB159_158.out
    have hs35 : w32.cell? ⟨gb159,2,none⟩ = some (.slice none 0 0):=(blk_cell BK159.out 2).trans rfl
    have hfs35:=blk_frozen BK159.out 2
    have hns35_0:=NB158_159.out
    have hms35_0:=NB159_158.out
    have hs36 : w32.cell? ⟨gb159,3,none⟩ = some (.bool false):=(blk_cell BK159.out 3).trans rfl
    have hfs36:=blk_frozen BK159.out 3
    have hns36_0:=NB158_159.out
    have hms36_0:=NB159_158.out
    have hs37 : w32.cell? ⟨gb159,4,none⟩ = some (.int .u64 0):=(blk_cell BK159.out 4).trans rfl
    have hfs37:=blk_frozen BK159.out 4
    have hns37_0:=NB158_159.out
    have hms37_0:=NB159_158.out
    refine skip_ (w1:=?_) (by rfl) rfl ?_ ?_
    rotate_left
    ·go_simp
     rfl
    refine hK.out _ _ ⟨((cell_far (p:=⟨gb159,_,none⟩) NB158_159.out _).trans (((cell_far (p:=⟨gb159,_,none⟩) NB158_159.out _).trans (((cell_far (p:=⟨gb159,_,none⟩) NB158_159.out _).trans (((cell_far (p:=⟨gb159,_,none⟩) NB158_159.out _).trans (((cell_far (p:=⟨gb159,_,none⟩) NB158_159.out _).trans (hHeld.1)))))))))),((cell_far (p:=⟨gb159,_,none⟩) NB158_159.out _).trans (((cell_far (p:=⟨gb159,_,none⟩) NB158_159.out _).trans (((cell_far (p:=⟨gb159,_,none⟩) NB158_159.out _).trans (((cell_far (p:=⟨gb159,_,none⟩) NB158_159.out _).trans (((cell_far (p:=⟨gb159,_,none⟩) NB158_159.out _).trans (hHeld.2.1)))))))))),((cell_far (p:=⟨gb159,_,none⟩) NB158_159.out _).trans (((cell_far (p:=⟨gb159,_,none⟩) NB158_159.out _).trans (((cell_far (p:=⟨gb159,_,none⟩) NB158_159.out _).trans (((cell_far (p:=⟨gb159,_,none⟩) NB158_159.out _).trans (((cell_far (p:=⟨gb159,_,none⟩) NB158_159.out _).trans (hHeld.2.2.1)))))))))),((cell_far (p:=⟨gb159,_,none⟩) NB158_159.out _).trans (((cell_far (p:=⟨gb159,_,none⟩) NB158_159.out _).trans (((cell_far (p:=⟨gb159,_,none⟩) NB158_159.out _).trans (((cell_far (p:=⟨gb159,_,none⟩) NB158_159.out _).trans (((cell_far (p:=⟨gb159,_,none⟩) NB158_159.out _).trans (hHeld.2.2.2.1)))))))))),((cell_far (p:=⟨gb159,_,none⟩) NB158_159.out _).trans (((cell_far (p:=⟨gb159,_,none⟩) NB158_159.out _).trans (((cell_far (p:=⟨gb159,_,none⟩) NB158_159.out _).trans (((cell_far (p:=⟨gb159,_,none⟩) NB158_159.out _).trans (((cell_far (p:=⟨gb159,_,none⟩) NB158_159.out _).trans (hHeld.2.2.2.2))))))))))⟩ (fun hHeld => ?_)
    clear hK K
    refine pure_ (i:=12) (N:=some 5) (v:=?_) (a':=?_) #[true,true,true,true,true,true,true,true,true,true,true,true,true,false] rfl rfl (any_of HT_.out (by kernel_rfl)) (fun _ _ _ h => h) (Or.inl ⟨by rfl,?_⟩) ?_ ?_
    rotate_left
    ·intro w'
     go_simp
     with_reducible rfl
    rotate_left
    ·simp only [Act.put,List.setIfInBounds_toArray,List.set_cons_zero,List.set_cons_succ,i64_w,i32_w]
     rfl
    refine pure_ (i:=13) (N:=some 6) (v:=?_) (a':=?_) #[true,true,true,true,true,true,true,true,true,true,true,true,true,true] rfl rfl (any_of HT_.out (by kernel_rfl)) (fun _ _ _ h => h) (Or.inl ⟨by rfl,?_⟩) ?_ ?_
    rotate_left
    ·intro w'
     go_simp
     with_reducible rfl
    rotate_left
    ·simp only [Act.put,List.setIfInBounds_toArray,List.set_cons_zero,List.set_cons_succ,i64_w,i32_w]
     rfl
    refine done_ (done_of HT_.out (by kernel_rfl)) ?_
    try go_wp2
    refine bodyPost_ret (results_ctt rfl _ _ gb159 28 #[.int .u64 (IntKind.u64.wrap (a0_0 + (IntKind.u64.wrap (ji5)))),.slice Ao28 t169.length co28,.slice Ao25 t166.length co25,.bool true,.int .u64 a0_4] (0,0) _ rfl (by (with_reducible repeat (first | refine blk_drewN ?_ _ | refine blk_drew ?_ | refine blk_alloc ?_ _));refine blk_put (cs:=#[.int .u64 (IntKind.u64.wrap (a0_0 + (IntKind.u64.wrap (ji5)))),.slice Ao28 t169.length co28,.slice Ao25 t166.length co25,.bool true,.int .u64 0]) ?_ 4 _ rfl;(with_reducible repeat (first | refine blk_drewN ?_ _ | refine blk_drew ?_ | refine blk_alloc ?_ _));refine blk_put (cs:=#[.int .u64 (IntKind.u64.wrap (a0_0 + (IntKind.u64.wrap (ji5)))),.slice Ao28 t169.length co28,.slice Ao25 t166.length co25,.bool false,.int .u64 0]) ?_ 3 _ rfl;(with_reducible repeat (first | refine blk_drewN ?_ _ | refine blk_drew ?_ | refine blk_alloc ?_ _));refine blk_put (cs:=#[.int .u64 (IntKind.u64.wrap (a0_0 + (IntKind.u64.wrap (ji5)))),.slice Ao28 t169.length co28,.slice none 0 0,.bool false,.int .u64 0]) ?_ 2 _ rfl;(with_reducible repeat (first | refine blk_drewN ?_ _ | refine blk_drew ?_ | refine blk_alloc ?_ _));refine blk_put (cs:=#[.int .u64 (IntKind.u64.wrap (a0_0 + (IntKind.u64.wrap (ji5)))),.slice none 0 0,.slice none 0 0,.bool false,.int .u64 0]) ?_ 1 _ rfl;(with_reducible repeat (first | refine blk_drewN ?_ _ | refine blk_drew ?_ | refine blk_alloc ?_ _));refine blk_put (cs:=#[.int .u64 0,.slice none 0 0,.slice none 0 0,.bool false,.int .u64 0]) ?_ 0 _ rfl;(with_reducible repeat (first | refine blk_drewN ?_ _ | refine blk_drew ?_ | refine blk_alloc ?_ _));exact BK159.out) Try.underlying28 rfl (by kernel_rfl)) rfl ?_
    exact ⟨_,_,_,by first | rfl | (simp [errW_none,errW_some] <;> rfl) | (simp only [← hji4,← hji5];first | rfl | (simp [errW_none,errW_some] <;> rfl)) | (simp [*,errW_none,errW_some] <;> rfl),by (with_reducible repeat (first | apply Kd.R_alloc | apply Kd.R_drewN | apply Kd.R_drew));exact Kd.R_mono (Kd.R_far (p:=⟨gb159,4,none⟩) (Kd.R_far (p:=⟨gb159,3,none⟩) (Kd.R_far (p:=⟨gb159,2,none⟩) (Kd.R_far (p:=⟨gb159,1,none⟩) (Kd.R_far (p:=⟨gb159,0,none⟩) (Kd.R_types HO171.out BK159.out (by decide)) (fun _ hk => hk.2) (.int .u64 (IntKind.u64.wrap (a0_0 + (IntKind.u64.wrap (ji5)))))) (fun _ hk => hk.2) (.slice Ao28 t169.length co28)) (fun _ hk => hk.2) (.slice Ao25 t166.length co25)) (fun _ hk => hk.2) (.bool true)) (fun _ hk => hk.2) (.int .u64 a0_4)) (fun _ hk => trivial),by (with_reducible repeat (first | apply Kd.R_alloc | apply Kd.R_drewN | apply Kd.R_drew));exact Kd.R_mono (Kd.R_far (p:=⟨gb159,4,none⟩) (Kd.R_far (p:=⟨gb159,3,none⟩) (Kd.R_far (p:=⟨gb159,2,none⟩) (Kd.R_far (p:=⟨gb159,1,none⟩) (Kd.R_far (p:=⟨gb159,0,none⟩) (Kd.R_types HO168.out BK159.out (by decide)) (fun _ hk => hk.2) (.int .u64 (IntKind.u64.wrap (a0_0 + (IntKind.u64.wrap (ji5)))))) (fun _ hk => hk.2) (.slice Ao28 t169.length co28)) (fun _ hk => hk.2) (.slice Ao25 t166.length co25)) (fun _ hk => hk.2) (.bool true)) (fun _ hk => hk.2) (.int .u64 a0_4)) (fun _ hk => hk.1),by (with_reducible repeat (first | apply Kd.R_alloc | apply Kd.R_drewN | apply Kd.R_drew));exact Kd.R_mono (Kd.R_far (p:=⟨gb159,4,none⟩) (Kd.R_far (p:=⟨gb159,3,none⟩) (Kd.R_far (p:=⟨gb159,2,none⟩) (Kd.R_far (p:=⟨gb159,1,none⟩) (Kd.R_far (p:=⟨gb159,0,none⟩) (Kd.R_types HO164.out BK159.out (by decide)) (fun _ hk => hk.2) (.int .u64 (IntKind.u64.wrap (a0_0 + (IntKind.u64.wrap (ji5)))))) (fun _ hk => hk.2) (.slice Ao28 t169.length co28)) (fun _ hk => hk.2) (.slice Ao25 t166.length co25)) (fun _ hk => hk.2) (.bool true)) (fun _ hk => hk.2) (.int .u64 a0_4)) (fun _ hk => hk.1),by repeat (first | (with_reducible first | exact HB.out | apply below_alloc | apply pw_below_drewN | apply below_drew1 | refine below_set ?_ GE158.out | refine below_set ?_ GE159.out) | exact HB.out)⟩
   ·replace c30:=Bool.eq_false_iff.mpr c30
    subst c30
    have H1 : (some (IntKind.u64.wrap (a0_0 + (IntKind.u64.wrap (ji5))),t169,t166,false,a0_4,t162,false)) = some (r1,r2,r3,r4,r5,r6,r7):=by rw [if_neg (show ¬ (false = true) by decide)] at H;exact H
    clear H
    have H:=H1
    clear H1
    simp only [Option.some.injEq,Prod.mk.injEq] at H
    obtain ⟨rfl,rfl,rfl,rfl,rfl,rfl,rfl⟩:=H
    try go_wp2
    have n0_ : Aside0 (Kd.R (Kd.int .u8) 5 ((w27.setCell ⟨gb158,1,none⟩ (.slice Ao28 t169.length co28)).setCell ⟨gb158,0,none⟩ (.int .u64 (IntKind.u64.wrap (a0_0 + (IntKind.u64.wrap (ji5)))))) w.heap.size (fun k_ => some k_ ≠ (.slice Ao25 t166.length co25 : Value).ownBlock) v163 t162):=⟨by (with_reducible repeat (first | apply Kd.R_alloc | apply Kd.R_drewN | apply Kd.R_drew));exact Kd.R_mono (Kd.R_far (p:=⟨gb158,0,none⟩) (Kd.R_far (p:=⟨gb158,1,none⟩) (Kd.R_types HO164.out BK158.out (by decide)) (fun _ hk => hk.2) (.slice Ao28 t169.length co28)) (fun _ hk => hk.2) (.int .u64 (IntKind.u64.wrap (a0_0 + (IntKind.u64.wrap (ji5)))))) (fun _ hk => hk.1.2)⟩
    have n1_ : Aside0 (Kd.R (Kd.int .u8) 5 ((w27.setCell ⟨gb158,1,none⟩ (.slice Ao28 t169.length co28)).setCell ⟨gb158,0,none⟩ (.int .u64 (IntKind.u64.wrap (a0_0 + (IntKind.u64.wrap (ji5)))))) w.heap.size (fun k_ => some k_ ≠ (v163 : Value).ownBlock) (.slice Ao25 t166.length co25) t166):=⟨by (with_reducible repeat (first | apply Kd.R_alloc | apply Kd.R_drewN | apply Kd.R_drew));exact Kd.R_mono (Kd.R_far (p:=⟨gb158,0,none⟩) (Kd.R_far (p:=⟨gb158,1,none⟩) (Kd.R_types HO168.out BK158.out (by decide)) (fun _ hk => hk.2) (.slice Ao28 t169.length co28)) (fun _ hk => hk.2) (.int .u64 (IntKind.u64.wrap (a0_0 + (IntKind.u64.wrap (ji5)))))) (fun _ hk => hk.1.2)⟩
    have n2_ : Aside0 (Kd.R k41 41 ((w27.setCell ⟨gb158,1,none⟩ (.slice Ao28 t169.length co28)).setCell ⟨gb158,0,none⟩ (.int .u64 (IntKind.u64.wrap (a0_0 + (IntKind.u64.wrap (ji5)))))) w.heap.size (fun _ => True) (.slice Ao28 t169.length co28) t169):=⟨by (with_reducible repeat (first | apply Kd.R_alloc | apply Kd.R_drewN | apply Kd.R_drew));exact Kd.R_mono (Kd.R_far (p:=⟨gb158,0,none⟩) (Kd.R_far (p:=⟨gb158,1,none⟩) (Kd.R_types HO171.out BK158.out (by decide)) (fun _ hk => hk.2) (.slice Ao28 t169.length co28)) (fun _ hk => hk.2) (.int .u64 (IntKind.u64.wrap (a0_0 + (IntKind.u64.wrap (ji5)))))) (fun _ hk => trivial)⟩
    have n3_ : Aside0 (((w27.setCell ⟨gb158,1,none⟩ (.slice Ao28 t169.length co28)).setCell ⟨gb158,0,none⟩ (.int .u64 (IntKind.u64.wrap (a0_0 + (IntKind.u64.wrap (ji5)))))).heap[gb158]? = some (.cells #[.int .u64 (IntKind.u64.wrap (a0_0 + (IntKind.u64.wrap (ji5)))),.slice Ao28 t169.length co28,.slice Ao25 t166.length co25,.bool false,.int .u64 a0_4] 28 (0,0))):=⟨by (with_reducible repeat (first | refine blk_drewN ?_ _ | refine blk_drew ?_ | refine blk_alloc ?_ _));refine blk_put (cs:=#[.int .u64 a0_0,.slice Ao28 t169.length co28,.slice Ao25 t166.length co25,.bool false,.int .u64 a0_4]) ?_ 0 _ rfl;(with_reducible repeat (first | refine blk_drewN ?_ _ | refine blk_drew ?_ | refine blk_alloc ?_ _));refine blk_put (cs:=#[.int .u64 a0_0,.slice A0_1 l0_1.length c0_1,.slice Ao25 t166.length co25,.bool false,.int .u64 a0_4]) ?_ 1 _ rfl;(with_reducible repeat (first | refine blk_drewN ?_ _ | refine blk_drew ?_ | refine blk_alloc ?_ _));exact BK158.out⟩
    have n4_ : Aside0 (((w27.setCell ⟨gb158,1,none⟩ (.slice Ao28 t169.length co28)).setCell ⟨gb158,0,none⟩ (.int .u64 (IntKind.u64.wrap (a0_0 + (IntKind.u64.wrap (ji5)))))).heap[gb159]? = some (.cells #[.int .u64 0,.slice none 0 0,.slice none 0 0,.bool false,.int .u64 0] 28 (0,0))):=⟨by (with_reducible repeat (first | refine blk_drewN ?_ _ | refine blk_drew ?_ | refine blk_alloc ?_ _));refine blk_far ?_ NB159_158.out _;(with_reducible repeat (first | refine blk_drewN ?_ _ | refine blk_drew ?_ | refine blk_alloc ?_ _));refine blk_far ?_ NB159_158.out _;(with_reducible repeat (first | refine blk_drewN ?_ _ | refine blk_drew ?_ | refine blk_alloc ?_ _));exact BK159.out⟩
    have n5_ : Aside0 (Below w.heap.size w ((w27.setCell ⟨gb158,1,none⟩ (.slice Ao28 t169.length co28)).setCell ⟨gb158,0,none⟩ (.int .u64 (IntKind.u64.wrap (a0_0 + (IntKind.u64.wrap (ji5))))))):=⟨by repeat (first | (with_reducible first | exact HB.out | apply below_alloc | apply pw_below_drewN | apply below_drew1 | refine below_set ?_ GE158.out | refine below_set ?_ GE159.out) | exact HB.out)⟩
    (try clear HO164)
    (try clear HO168)
    (try clear HO171)
    (try clear BK158)
    (try clear BK159)
    (try clear HB)
    generalize ((w27.setCell ⟨gb158,1,none⟩ (.slice Ao28 t169.length co28)).setCell ⟨gb158,0,none⟩ (.int .u64 (IntKind.u64.wrap (a0_0 + (IntKind.u64.wrap (ji5)))))) = w38 at n0_ n1_ n2_ n3_ n4_ n5_ ⊢
    have HO164:=n0_
    have HO168:=n1_
    have HO171:=n2_
    have BK158:=n3_
    have BK159:=n4_
    have HB:=n5_
    clear n0_ n1_ n2_ n3_ n4_ n5_
    have n0_:=Aside0.mk (Kd.R_drew HO164.out)
    have n1_:=Aside0.mk (Kd.R_drew HO168.out)
    have n2_:=Aside0.mk (Kd.R_drew HO171.out)
    have n3_:=Aside0.mk (blk_drew BK158.out)
    have n4_:=Aside0.mk (blk_drew BK159.out)
    have n5_:=Aside0.mk (below_drew1 HB.out)
    clear HO164
    clear HO168
    clear HO171
    clear BK158
    clear BK159
    clear HB
    have HO164:=n0_
    have HO168:=n1_
    have HO171:=n2_
    have BK158:=n3_
    have BK159:=n4_
    have HB:=n5_
    clear n0_ n1_ n2_ n3_ n4_ n5_
    refine start_ (n:=14) (S:=fun w' => w'.cell? ⟨gb158,0,none⟩ = some (.int .u64 (IntKind.u64.wrap (a0_0 + (IntKind.u64.wrap (ji5))))) ∧ w'.cell? ⟨gb158,1,none⟩ = some (.slice Ao28 t169.length co28) ∧ w'.cell? ⟨gb158,2,none⟩ = some (.slice Ao25 t166.length co25) ∧ w'.cell? ⟨gb158,3,none⟩ = some (.bool false) ∧ w'.cell? ⟨gb158,4,none⟩ = some (.int .u64 a0_4)) (ds:=[]) #[false,false,false,false,false,false,false,false,false,false,false,false,false,false] (by kernel_rfl) rfl rfl ⟨(blk_cell BK158.out 0).trans rfl,(blk_cell BK158.out 1).trans rfl,(blk_cell BK158.out 2).trans rfl,(blk_cell BK158.out 3).trans rfl,(blk_cell BK158.out 4).trans rfl⟩ (fun hHeld => ?_);refine with_tabW gather_Read.tab6 gather_Read.bits6 (fun HT_ HW_ => ?_)
    generalize w38.drew = w39 at HO164 HO168 HO171 BK158 BK159 HB hHeld ⊢
    refine pure_ (i:=1) (N:=some 43) (v:=?_) (a':=?_) #[false,true,false,false,false,false,false,false,false,false,false,false,false,false] rfl rfl (any_of HT_.out (by kernel_rfl)) (fun _ _ _ h => h) (Or.inl ⟨by rfl,?_⟩) ?_ ?_
    rotate_left
    ·intro w'
     go_simp
     with_reducible rfl
    rotate_left
    ·simp only [Act.put,List.setIfInBounds_toArray,List.set_cons_zero,List.set_cons_succ,i64_w,i32_w]
     rfl
    refine pure_ (i:=2) (N:=some 44) (v:=?_) (a':=?_) #[false,true,true,false,false,false,false,false,false,false,false,false,false,false] rfl rfl (any_of HT_.out (by kernel_rfl)) (fun _ _ _ h => h) (Or.inl ⟨by rfl,?_⟩) ?_ ?_
    rotate_left
    ·intro w'
     go_simp
     with_reducible rfl
    rotate_left
    ·simp only [Act.put,List.setIfInBounds_toArray,List.set_cons_zero,List.set_cons_succ,i64_w,i32_w]
     rfl
    refine take_ (i:=0) (N:=some 42) (v:=?_) (a':=?_) #[true,true,true,false,false,false,false,false,false,false,false,false,false,false] rfl rfl (take_ofW HT_.out HW_.out (by kernel_rfl)) (fun _ _ _ h => h) (Or.inl ⟨by rfl,?_⟩) hHeld ?_ ?_
    rotate_left
    ·rintro w' ⟨s0,s1,s2,s3,s4⟩
     go_simp
     with_reducible rfl
    rotate_left
    ·simp only [Act.put,List.setIfInBounds_toArray,List.set_cons_zero,List.set_cons_succ,i64_w,i32_w]
     rfl
    refine take_ (i:=3) (N:=some 45) (v:=?_) (a':=?_) #[true,true,true,true,false,false,false,false,false,false,false,false,false,false] rfl rfl (take_ofW HT_.out HW_.out (by kernel_rfl)) (fun _ _ _ h => h) (Or.inl ⟨by rfl,?_⟩) hHeld ?_ ?_
    rotate_left
    ·rintro w' ⟨s0,s1,s2,s3,s4⟩
     go_simp
     with_reducible rfl
    rotate_left
    ·simp only [Act.put,List.setIfInBounds_toArray,List.set_cons_zero,List.set_cons_succ,i64_w,i32_w]
     rfl
    refine pure_ (i:=4) (N:=some 46) (v:=?_) (a':=?_) #[true,true,true,true,true,false,false,false,false,false,false,false,false,false] rfl rfl (any_of HT_.out (by kernel_rfl)) (fun _ _ _ h => h) (Or.inl ⟨by rfl,?_⟩) ?_ ?_
    rotate_left
    ·intro w'
     go_simp
     with_reducible rfl
    rotate_left
    ·simp only [Act.put,List.setIfInBounds_toArray,List.set_cons_zero,List.set_cons_succ,i64_w,i32_w]
     rfl
    refine pure_ (i:=5) (N:=some 47) (v:=undef) (a':=?_) #[true,true,true,true,true,true,false,false,false,false,false,false,false,false] rfl rfl (any_of HT_.out (by kernel_rfl)) (fun _ _ _ h => h) (Or.inr ⟨by rfl,rfl⟩) ?_ ?_
    rotate_left
    ·simp only [Act.put,List.setIfInBounds_toArray,List.set_cons_zero,List.set_cons_succ,i64_w,i32_w]
     rfl
    refine pure_ (i:=6) (N:=some 48) (v:=undef) (a':=?_) #[true,true,true,true,true,true,true,false,false,false,false,false,false,false] rfl rfl (any_of HT_.out (by kernel_rfl)) (fun _ _ _ h => h) (Or.inr ⟨by rfl,rfl⟩) ?_ ?_
    rotate_left
    ·simp only [Act.put,List.setIfInBounds_toArray,List.set_cons_zero,List.set_cons_succ,i64_w,i32_w]
     rfl
    refine pure_ (i:=7) (N:=some 49) (v:=undef) (a':=?_) #[true,true,true,true,true,true,true,true,false,false,false,false,false,false] rfl rfl (any_of HT_.out (by kernel_rfl)) (fun _ _ _ h => h) (Or.inr ⟨by rfl,rfl⟩) ?_ ?_
    rotate_left
    ·simp only [Act.put,List.setIfInBounds_toArray,List.set_cons_zero,List.set_cons_succ,i64_w,i32_w]
     rfl
    refine pure_ (i:=8) (N:=some 50) (v:=undef) (a':=?_) #[true,true,true,true,true,true,true,true,true,false,false,false,false,false] rfl rfl (any_of HT_.out (by kernel_rfl)) (fun _ _ _ h => h) (Or.inr ⟨by rfl,rfl⟩) ?_ ?_
    rotate_left
    ·simp only [Act.put,List.setIfInBounds_toArray,List.set_cons_zero,List.set_cons_succ,i64_w,i32_w]
     rfl
    refine pure_ (i:=9) (N:=some 51) (v:=undef) (a':=?_) #[true,true,true,true,true,true,true,true,true,true,false,false,false,false] rfl rfl (any_of HT_.out (by kernel_rfl)) (fun _ _ _ h => h) (Or.inr ⟨by rfl,rfl⟩) ?_ ?_
    rotate_left
    ·simp only [Act.put,List.setIfInBounds_toArray,List.set_cons_zero,List.set_cons_succ,i64_w,i32_w]
     rfl
    refine pure_ (i:=10) (N:=some 52) (v:=?_) (a':=?_) #[true,true,true,true,true,true,true,true,true,true,true,false,false,false] rfl rfl (any_of HT_.out (by kernel_rfl)) (fun _ _ _ h => h) (Or.inl ⟨by rfl,?_⟩) ?_ ?_
    rotate_left
    ·intro w'
     go_simp
     with_reducible rfl
    rotate_left
    ·simp only [Act.put,List.setIfInBounds_toArray,List.set_cons_zero,List.set_cons_succ,i64_w,i32_w]
     rfl
    refine one_ (i:=11) (N:=none) #[true,true,true,true,true,true,true,true,true,true,true,true,false,false] rfl rfl (one_of HT_.out (by kernel_rfl)) (by decide) (fun K hK => ?_)
    have hs40 : w39.cell? ⟨gb159,0,none⟩ = some (.int .u64 0):=(blk_cell BK159.out 0).trans rfl
    have hfs40:=blk_frozen BK159.out 0
    have hns40_0:=NB158_159.out
    have hms40_0:=NB159_158.out
    have hs41 : w39.cell? ⟨gb159,1,none⟩ = some (.slice none 0 0):=(blk_cell BK159.out 1).trans rfl
    have hfs41:=blk_frozen BK159.out 1
    have hns41_0:=NB158_159.out
    have hms41_0:=NB159_158.out
    have hs42 : w39.cell? ⟨gb159,2,none⟩ = some (.slice none 0 0):=(blk_cell BK159.out 2).trans rfl
    have hfs42:=blk_frozen BK159.out 2
    have hns42_0:=NB158_159.out
    have hms42_0:=NB159_158.out
    have hs43 : w39.cell? ⟨gb159,3,none⟩ = some (.bool false):=(blk_cell BK159.out 3).trans rfl
    have hfs43:=blk_frozen BK159.out 3
    have hns43_0:=NB158_159.out
    have hms43_0:=NB159_158.out
    have hs44 : w39.cell? ⟨gb159,4,none⟩ = some (.int .u64 0):=(blk_cell BK159.out 4).trans rfl
    have hfs44:=blk_frozen BK159.out 4
    have hns44_0:=NB158_159.out
    have hms44_0:=NB159_158.out
    refine skip_ (w1:=?_) (by rfl) rfl ?_ ?_
    rotate_left
    ·go_simp
     rfl
    refine hK.out _ _ ⟨((cell_far (p:=⟨gb159,_,none⟩) NB158_159.out _).trans (((cell_far (p:=⟨gb159,_,none⟩) NB158_159.out _).trans (((cell_far (p:=⟨gb159,_,none⟩) NB158_159.out _).trans (((cell_far (p:=⟨gb159,_,none⟩) NB158_159.out _).trans (((cell_far (p:=⟨gb159,_,none⟩) NB158_159.out _).trans (hHeld.1)))))))))),((cell_far (p:=⟨gb159,_,none⟩) NB158_159.out _).trans (((cell_far (p:=⟨gb159,_,none⟩) NB158_159.out _).trans (((cell_far (p:=⟨gb159,_,none⟩) NB158_159.out _).trans (((cell_far (p:=⟨gb159,_,none⟩) NB158_159.out _).trans (((cell_far (p:=⟨gb159,_,none⟩) NB158_159.out _).trans (hHeld.2.1)))))))))),((cell_far (p:=⟨gb159,_,none⟩) NB158_159.out _).trans (((cell_far (p:=⟨gb159,_,none⟩) NB158_159.out _).trans (((cell_far (p:=⟨gb159,_,none⟩) NB158_159.out _).trans (((cell_far (p:=⟨gb159,_,none⟩) NB158_159.out _).trans (((cell_far (p:=⟨gb159,_,none⟩) NB158_159.out _).trans (hHeld.2.2.1)))))))))),((cell_far (p:=⟨gb159,_,none⟩) NB158_159.out _).trans (((cell_far (p:=⟨gb159,_,none⟩) NB158_159.out _).trans (((cell_far (p:=⟨gb159,_,none⟩) NB158_159.out _).trans (((cell_far (p:=⟨gb159,_,none⟩) NB158_159.out _).trans (((cell_far (p:=⟨gb159,_,none⟩) NB158_159.out _).trans (hHeld.2.2.2.1)))))))))),((cell_far (p:=⟨gb159,_,none⟩) NB158_159.out _).trans (((cell_far (p:=⟨gb159,_,none⟩) NB158_159.out _).trans (((cell_far (p:=⟨gb159,_,none⟩) NB158_159.out _).trans (((cell_far (p:=⟨gb159,_,none⟩) NB158_159.out _).trans (((cell_far (p:=⟨gb159,_,none⟩) NB158_159.out _).trans (hHeld.2.2.2.2))))))))))⟩ (fun hHeld => ?_)
    clear hK K
    refine pure_ (i:=12) (N:=some 5) (v:=?_) (a':=?_) #[true,true,true,true,true,true,true,true,true,true,true,true,true,false] rfl rfl (any_of HT_.out (by kernel_rfl)) (fun _ _ _ h => h) (Or.inl ⟨by rfl,?_⟩) ?_ ?_
    rotate_left
    ·intro w'
     go_simp
     with_reducible rfl
    rotate_left
    ·simp only [Act.put,List.setIfInBounds_toArray,List.set_cons_zero,List.set_cons_succ,i64_w,i32_w]
     rfl
    refine pure_ (i:=13) (N:=some 6) (v:=?_) (a':=?_) #[true,true,true,true,true,true,true,true,true,true,true,true,true,true] rfl rfl (any_of HT_.out (by kernel_rfl)) (fun _ _ _ h => h) (Or.inl ⟨by rfl,?_⟩) ?_ ?_
    rotate_left
    ·intro w'
     go_simp
     with_reducible rfl
    rotate_left
    ·simp only [Act.put,List.setIfInBounds_toArray,List.set_cons_zero,List.set_cons_succ,i64_w,i32_w]
     rfl
    refine done_ (done_of HT_.out (by kernel_rfl)) ?_
    try go_wp2
    refine bodyPost_ret (results_ctt rfl _ _ gb159 28 #[.int .u64 (IntKind.u64.wrap (a0_0 + (IntKind.u64.wrap (ji5)))),.slice Ao28 t169.length co28,.slice Ao25 t166.length co25,.bool false,.int .u64 a0_4] (0,0) _ rfl (by (with_reducible repeat (first | refine blk_drewN ?_ _ | refine blk_drew ?_ | refine blk_alloc ?_ _));refine blk_put (cs:=#[.int .u64 (IntKind.u64.wrap (a0_0 + (IntKind.u64.wrap (ji5)))),.slice Ao28 t169.length co28,.slice Ao25 t166.length co25,.bool false,.int .u64 0]) ?_ 4 _ rfl;(with_reducible repeat (first | refine blk_drewN ?_ _ | refine blk_drew ?_ | refine blk_alloc ?_ _));refine blk_put (cs:=#[.int .u64 (IntKind.u64.wrap (a0_0 + (IntKind.u64.wrap (ji5)))),.slice Ao28 t169.length co28,.slice Ao25 t166.length co25,.bool false,.int .u64 0]) ?_ 3 _ rfl;(with_reducible repeat (first | refine blk_drewN ?_ _ | refine blk_drew ?_ | refine blk_alloc ?_ _));refine blk_put (cs:=#[.int .u64 (IntKind.u64.wrap (a0_0 + (IntKind.u64.wrap (ji5)))),.slice Ao28 t169.length co28,.slice none 0 0,.bool false,.int .u64 0]) ?_ 2 _ rfl;(with_reducible repeat (first | refine blk_drewN ?_ _ | refine blk_drew ?_ | refine blk_alloc ?_ _));refine blk_put (cs:=#[.int .u64 (IntKind.u64.wrap (a0_0 + (IntKind.u64.wrap (ji5)))),.slice none 0 0,.slice none 0 0,.bool false,.int .u64 0]) ?_ 1 _ rfl;(with_reducible repeat (first | refine blk_drewN ?_ _ | refine blk_drew ?_ | refine blk_alloc ?_ _));refine blk_put (cs:=#[.int .u64 0,.slice none 0 0,.slice none 0 0,.bool false,.int .u64 0]) ?_ 0 _ rfl;(with_reducible repeat (first | refine blk_drewN ?_ _ | refine blk_drew ?_ | refine blk_alloc ?_ _));exact BK159.out) Try.underlying28 rfl (by kernel_rfl)) rfl ?_
    exact ⟨_,_,_,by first | rfl | (simp [errW_none,errW_some] <;> rfl) | (simp only [← hji4,← hji5];first | rfl | (simp [errW_none,errW_some] <;> rfl)) | (simp [*,errW_none,errW_some] <;> rfl),by (with_reducible repeat (first | apply Kd.R_alloc | apply Kd.R_drewN | apply Kd.R_drew));exact Kd.R_mono (Kd.R_far (p:=⟨gb159,4,none⟩) (Kd.R_far (p:=⟨gb159,3,none⟩) (Kd.R_far (p:=⟨gb159,2,none⟩) (Kd.R_far (p:=⟨gb159,1,none⟩) (Kd.R_far (p:=⟨gb159,0,none⟩) (Kd.R_types HO171.out BK159.out (by decide)) (fun _ hk => hk.2) (.int .u64 (IntKind.u64.wrap (a0_0 + (IntKind.u64.wrap (ji5)))))) (fun _ hk => hk.2) (.slice Ao28 t169.length co28)) (fun _ hk => hk.2) (.slice Ao25 t166.length co25)) (fun _ hk => hk.2) (.bool false)) (fun _ hk => hk.2) (.int .u64 a0_4)) (fun _ hk => trivial),by (with_reducible repeat (first | apply Kd.R_alloc | apply Kd.R_drewN | apply Kd.R_drew));exact Kd.R_mono (Kd.R_far (p:=⟨gb159,4,none⟩) (Kd.R_far (p:=⟨gb159,3,none⟩) (Kd.R_far (p:=⟨gb159,2,none⟩) (Kd.R_far (p:=⟨gb159,1,none⟩) (Kd.R_far (p:=⟨gb159,0,none⟩) (Kd.R_types HO168.out BK159.out (by decide)) (fun _ hk => hk.2) (.int .u64 (IntKind.u64.wrap (a0_0 + (IntKind.u64.wrap (ji5)))))) (fun _ hk => hk.2) (.slice Ao28 t169.length co28)) (fun _ hk => hk.2) (.slice Ao25 t166.length co25)) (fun _ hk => hk.2) (.bool false)) (fun _ hk => hk.2) (.int .u64 a0_4)) (fun _ hk => hk.1),by (with_reducible repeat (first | apply Kd.R_alloc | apply Kd.R_drewN | apply Kd.R_drew));exact Kd.R_mono (Kd.R_far (p:=⟨gb159,4,none⟩) (Kd.R_far (p:=⟨gb159,3,none⟩) (Kd.R_far (p:=⟨gb159,2,none⟩) (Kd.R_far (p:=⟨gb159,1,none⟩) (Kd.R_far (p:=⟨gb159,0,none⟩) (Kd.R_types HO164.out BK159.out (by decide)) (fun _ hk => hk.2) (.int .u64 (IntKind.u64.wrap (a0_0 + (IntKind.u64.wrap (ji5)))))) (fun _ hk => hk.2) (.slice Ao28 t169.length co28)) (fun _ hk => hk.2) (.slice Ao25 t166.length co25)) (fun _ hk => hk.2) (.bool false)) (fun _ hk => hk.2) (.int .u64 a0_4)) (fun _ hk => hk.1),by repeat (first | (with_reducible first | exact HB.out | apply below_alloc | apply pw_below_drewN | apply below_drew1 | refine below_set ?_ GE158.out | refine below_set ?_ GE159.out) | exact HB.out)⟩
  ·rw [if_neg c7] at H
   exact absurd H (by simp)
 ·rw [if_neg c6] at H
  exact absurd H (by simp)

end Go.Proofs.Ytndfddejdfnleaa.P
