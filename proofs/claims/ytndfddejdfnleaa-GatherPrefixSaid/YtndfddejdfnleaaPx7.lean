-- Printed for this claim by xprint.py of this session: contracts of this session's own stand in for what the print does not take
import Derived.Test.YtndfddejdfnleaaPx0
import Derived.Test.YtndfddejdfnleaaPx2
namespace Go.Proofs.Ytndfddejdfnleaa.P
open Go.RowKit Go.Proofs.YtndfddejdfnleaaW.PrintWords Go.Proofs.YtndfddejdfnleaaW.PrintLast Go.Proofs.YtndfddejdfnleaaW.PrintMore
attribute [local go_sem] max2_int min2_int max_two min_two max_three min_three max_four min_four   -- for this text's walks alone
set_option linter.unusedVariables false
set_option linter.unusedSimpArgs false

/-! ### span_Add: function 19 -/
def span_Add.l0 : Nat → List (S41) → List (S41) → Int → Int → Int → Option ((List (S41)))
 | 0,_,_,_,_,_ => none
 | k + 1,x0,x5,x6,x124000,x124001 => if x6 < (x0.length : Int) then (if 0 ≤ x6 then (if ((rd_T41 x0 x6).f1) < x124000 then (if x5.length < 8796093022208 then (span_Add.l0 k x0 (x5 ++ [(⟨(rd_T41 x0 x6).f0,(rd_T41 x0 x6).f1⟩ : S41)]) (wrap64 (x6 + 1)) x124000 x124001) else (none)) else (if ((rd_T41 x0 x6).f0) > x124001 then (if x5.length < 8796093022208 then ((some (x5 ++ [(⟨x124000,x124001⟩ : S41)] : List (S41))).bind fun y143 => (if x6 ≤ (x0.length : Int) then ((some (x0.drop (x6 : Int).toNat : List (S41))).bind fun y146 => (if y143.length + y146.length < 8796093022208 then (some (y143 ++ y146)) else (none))) else (none))) else (none)) else (span_Add.l0 k x0 x5 (wrap64 (x6 + 1)) (mn x124000 ((rd_T41 x0 x6).f0)) (mx x124001 ((rd_T41 x0 x6).f1))))) else (none)) else (if x5.length < 8796093022208 then ((some (x5 ++ [(⟨x124000,x124001⟩ : S41)] : List (S41))).bind fun y127 => (if 0 ≤ x6 then (if x6 ≤ (x0.length : Int) then ((some (x0.drop (x6 : Int).toNat : List (S41))).bind fun y130 => (if y127.length + y130.length < 8796093022208 then (some (y127 ++ y130)) else (none))) else (none)) else (none))) else (none))
def span_Add.f (k : Nat) (l0 : List (S41)) (a1_0 : Int) (a1_1 : Int) : Option ((List (S41))):=if a1_0 ≥ a1_1 then ((api_Span.f l0).bind fun t124 => (some t124)) else (span_Add.l0 k l0 ([] : List (S41)) 0 a1_0 a1_1)
theorem span_Add.mono_l : ∀ k,(∀ y0 y1 y2 y3 y4,LeO (span_Add.l0 k y0 y1 y2 y3 y4) (span_Add.l0 (k + 1) y0 y1 y2 y3 y4))
 | 0 => fun _ _ _ _ _ r h => by simp [span_Add.l0] at h
 | k + 1 => by
  have ih0:=span_Add.mono_l k
  ·intro y0 y1 y2 y3 y4
   unfold span_Add.l0
   repeat' first
   | (with_reducible exact ih0 _ _ _ _ _)
   | (with_reducible exact LeO.refl _)
   | (with_reducible exact LeO.none _)
   | (with_reducible refine LeO.ite ?_ ?_)
   | (with_reducible refine LeO.bind ?_ (fun _ => ?_))
   | exact ih0 _ _ _ _ _
   | exact LeO.none _
   | refine LeO.ite ?_ ?_
   | refine LeO.bind ?_ (fun _ => ?_)
theorem span_Add.mono : ∀ a0 a1 a2 k,LeO (span_Add.f k a0 a1 a2) (span_Add.f (k + 1) a0 a1 a2):=by
 intro a0 a1 a2 k
 have ih0:=span_Add.mono_l k
 unfold span_Add.f
 repeat' first
   | (with_reducible exact ih0 _ _ _ _ _)
   | (with_reducible exact LeO.refl _)
   | (with_reducible exact LeO.none _)
   | (with_reducible refine LeO.ite ?_ ?_)
   | (with_reducible refine LeO.bind ?_ (fun _ => ?_))
   | exact ih0 _ _ _ _ _
   | exact LeO.none _
   | refine LeO.ite ?_ ?_
   | refine LeO.bind ?_ (fun _ => ?_)
def span_Add.T7 : Bool × List (List Nat × List Nat):=(true,[([],[]),([],[]),([0,1],[0,1]),([2],[2]),([3],[3]),([],[]),([5],[5]),([4,6],[4,6]),([7],[7])])
def span_Add.B7 : List Nat:=[0,0,3,7,15,0,32,127,255]
theorem span_Add.tab7 : rtab .any (opsOf Try.f19 7) = span_Add.T7:=by kernel_rfl
theorem span_Add.bits7 : waitsOk span_Add.T7.2 span_Add.B7 = true:=by kernel_rfl
def span_Add.T9 : Bool × List (List Nat × List Nat):=(true,[([],[]),([],[]),([0,1],[0,1]),([2],[2]),([3],[3]),([],[]),([5],[5]),([4,6],[4,6]),([7],[7])])
def span_Add.B9 : List Nat:=[0,0,3,7,15,0,32,127,255]
theorem span_Add.tab9 : rtab .any (opsOf Try.f19 9) = span_Add.T9:=by kernel_rfl
theorem span_Add.bits9 : waitsOk span_Add.T9.2 span_Add.B9 = true:=by kernel_rfl
def span_Add.T10 : Bool × List (List Nat × List Nat):=(true,[([],[]),([0],[0]),([],[]),([],[]),([2,3],[2,3]),([4],[4]),([5],[5]),([1,6],[1,6]),([],[]),([8],[8]),([],[]),([],[]),([10,11],[10,11]),([12],[12]),([13],[13]),([9,14],[9,14]),([0,1,2,3,4,5,6,7,8,9],[]),([16,7,0,1,2,3,4,5,6,7,8,9],[7,16]),([0,1,2,3,4,5,6,7,8,9,10,11,12,13,14,15,16,17],[]),([18,15,17,0,1,2,3,4,5,6,7,8,9,10,11,12,13,14,15,16,17],[15,18])])
def span_Add.B10 : List Nat:=[0,1,0,0,12,28,60,127,0,256,0,0,3072,7168,15360,32512,1023,66559,262143,524287]
theorem span_Add.tab10 : rtab .any (opsOf Try.f19 10) = span_Add.T10:=by kernel_rfl
theorem span_Add.bits10 : waitsOk span_Add.T10.2 span_Add.B10 = true:=by kernel_rfl
def span_Add.T11 : Bool × List (List Nat × List Nat):=(true,[([],[]),([],[]),([1],[1]),([0,2],[0,2]),([],[]),([],[]),([4,5],[4,5]),([3,6,3],[3,6]),([7,7,0,1,2,3,4,5,6,7],[7])])
def span_Add.B11 : List Nat:=[0,0,2,7,0,0,48,127,255]
theorem span_Add.tab11 : rtab .any (opsOf Try.f19 11) = span_Add.T11:=by kernel_rfl
theorem span_Add.bits11 : waitsOk span_Add.T11.2 span_Add.B11 = true:=by kernel_rfl
set_option maxHeartbeats 8000000 in
set_option maxRecDepth 100000 in
theorem span_Add.calls (k : Nat) (A0 : Option Addr) (c0 : Nat) (l0 : List (S41)) (a1_0 : Int) (a1_1 : Int) (r : List (S41)) (w : World) (hr0 : Kd.C k41 w A0 l0.length l0) (hc0 : l0.length ≤ c0) (h : span_Add.f k l0 a1_0 a1_1 = some r) :
  Calls Try.prog 19 #[.slice A0 l0.length c0,.agg #[.int .u64 a1_0,.int .u64 a1_1]] w fun e w' => ∃ v0_ : Value,e = .returned (v0_) ∧ Kd.R k41 41 w' w.heap.size (fun _ => True) v0_ r ∧ Below w.heap.size w w':=by
 have hu41:=Try.underlying41
 have HR0:=Aside0.mk hr0
 have HC0:=Aside0.mk hc0
 clear hr0 hc0
 have HB:=Aside0.mk (Below.refl w.heap.size w)
 have H : (if a1_0 ≥ a1_1 then ((api_Span.f l0).bind fun t124 => (some t124)) else (span_Add.l0 k l0 ([] : List (S41)) 0 a1_0 a1_1)) = some r:=h
 clear h
 by_cases c3 : a1_0 ≥ a1_1
 ·rw [if_pos c3] at H
  have c3b0 : decide (a1_1 ≤ a1_0) = true:=decide_eq_true c3
  clear c3
  replace H:=Option.bind_eq_some_iff.mp H
  obtain ⟨t124,A40,H⟩:=H
  replace H : (some t124) = some r:=H
  have A4:=Aside0.mk A40
  clear A40
  obtain rfl:=Option.some.inj H
  go_enter Try.func19,Try.ntmps19
  go_wp2_with (first | ((with_reducible refine gate_dst (N:=3) rfl ?_);refine box_event ?hg (N:=3) ?hd (cs:=#[.int .u64 a1_0,.int .u64 a1_1]) (t:=41) ?hr ?_;(case hd => rfl);(case hg => rfl);(case hr => first | (go_simp;done) | (go_simp;rfl));intro gb123 hg w5 hbox hb;have n0_:=Aside0.mk (below_step (by repeat (first | (with_reducible first | exact HB.out | apply below_alloc | apply pw_below_drewN | apply below_drew1) | exact HB.out)) hb);have n1_:=Aside0.mk (hbox);have n2_:=Aside0.mk ((by rw [hg];exact (below_size (by repeat (first | (with_reducible first | exact HB.out | apply below_alloc | apply pw_below_drewN | apply below_drew1) | exact HB.out))) : w.heap.size ≤ gb123));have n3_:=Aside0.mk ((by rw [hg];exact (below_size (by repeat (first | (with_reducible first | exact HB.out | apply below_alloc | apply pw_below_drewN | apply below_drew1) | exact HB.out))) : w.heap.size ≤ gb123));clear HB;have HB:=n0_;have BK123:=n1_;have GW123:=n2_;have GE123:=n3_;clear n0_ n1_ n2_ n3_;clear hb hbox hg;have hcz6_0 : w5.cell? ⟨gb123,0,none⟩ = some (.int .u64 a1_0):=(blk_cell BK123.out 0).trans rfl;have hcz6_1 : w5.cell? ⟨gb123,1,none⟩ = some (.int .u64 a1_1):=(blk_cell BK123.out 1).trans rfl;have hfz6_0:=blk_frozen BK123.out 0;have hfz6_1:=blk_frozen BK123.out 1) | ((with_reducible refine gate_callee (f:=22) rfl ?_);refine goesL_ (some 13) rfl rfl Try.func22 (by kernel_rfl) rfl #[.slice A0 l0.length c0] rfl (by (try simp only [List.map_toArray,List.map_cons,List.map_nil]);first | done | rfl | (simp only [List.length_drop,List.length_take];rfl)) ?_;(with_reducible refine (api_Span.calls _ _ l0 t124 _ ?side1 ?side2 A4.out).mono ?_);(case side1 => repeat (first | exact (Kd.C_below HR0.out HB.out) | (with_reducible refine Kd.C_alloc ?_ _) | (with_reducible refine Kd.C_drewN ?_ _) | (with_reducible refine Kd.C_drew ?_)));(case side2 => exact HC0.out);rintro e w7 ⟨v125,rfl,ho0,hb⟩;refine ⟨_,rfl,?_⟩;have n0_:=Aside0.mk (Kd.R_lower (Kd.R_newB ho0 (g:=gb123) (o:=.cells #[.int .u64 a1_0,.int .u64 a1_1] 41 (0,0)) (by (with_reducible repeat (first | refine blk_drewN ?_ _ | refine blk_drew ?_ | refine blk_alloc ?_ _));exact BK123.out)) (below_size (by repeat (first | (with_reducible first | exact HB.out | apply below_alloc | apply pw_below_drewN | apply below_drew1 | refine below_set ?_ GE123.out) | exact HB.out))));have n1_:=Aside0.mk (blk_below (g:=gb123) (o:=.cells #[.int .u64 a1_0,.int .u64 a1_1] 41 (0,0)) (by (with_reducible repeat (first | refine blk_drewN ?_ _ | refine blk_drew ?_ | refine blk_alloc ?_ _));exact BK123.out) hb);have n2_:=Aside0.mk (below_step (by repeat (first | (with_reducible first | exact HB.out | apply below_alloc | apply pw_below_drewN | apply below_drew1 | refine below_set ?_ GE123.out) | exact HB.out)) hb);clear BK123;clear HB;have HO126:=n0_;have BK123:=n1_;have HB:=n2_;clear n0_ n1_ n2_;(try clear hb);(try clear hb2);(try clear hk);(try clear hi);(try clear ho0)))
  repeat (go_step3;go_wp2_with (first | ((with_reducible refine gate_dst (N:=3) rfl ?_);refine box_event ?hg (N:=3) ?hd (cs:=#[.int .u64 a1_0,.int .u64 a1_1]) (t:=41) ?hr ?_;(case hd => rfl);(case hg => rfl);(case hr => first | (go_simp;done) | (go_simp;rfl));intro gb123 hg w5 hbox hb;have n0_:=Aside0.mk (below_step (by repeat (first | (with_reducible first | exact HB.out | apply below_alloc | apply pw_below_drewN | apply below_drew1) | exact HB.out)) hb);have n1_:=Aside0.mk (hbox);have n2_:=Aside0.mk ((by rw [hg];exact (below_size (by repeat (first | (with_reducible first | exact HB.out | apply below_alloc | apply pw_below_drewN | apply below_drew1) | exact HB.out))) : w.heap.size ≤ gb123));have n3_:=Aside0.mk ((by rw [hg];exact (below_size (by repeat (first | (with_reducible first | exact HB.out | apply below_alloc | apply pw_below_drewN | apply below_drew1) | exact HB.out))) : w.heap.size ≤ gb123));clear HB;have HB:=n0_;have BK123:=n1_;have GW123:=n2_;have GE123:=n3_;clear n0_ n1_ n2_ n3_;clear hb hbox hg;have hcz6_0 : w5.cell? ⟨gb123,0,none⟩ = some (.int .u64 a1_0):=(blk_cell BK123.out 0).trans rfl;have hcz6_1 : w5.cell? ⟨gb123,1,none⟩ = some (.int .u64 a1_1):=(blk_cell BK123.out 1).trans rfl;have hfz6_0:=blk_frozen BK123.out 0;have hfz6_1:=blk_frozen BK123.out 1) | ((with_reducible refine gate_callee (f:=22) rfl ?_);refine goesL_ (some 13) rfl rfl Try.func22 (by kernel_rfl) rfl #[.slice A0 l0.length c0] rfl (by (try simp only [List.map_toArray,List.map_cons,List.map_nil]);first | done | rfl | (simp only [List.length_drop,List.length_take];rfl)) ?_;(with_reducible refine (api_Span.calls _ _ l0 t124 _ ?side1 ?side2 A4.out).mono ?_);(case side1 => repeat (first | exact (Kd.C_below HR0.out HB.out) | (with_reducible refine Kd.C_alloc ?_ _) | (with_reducible refine Kd.C_drewN ?_ _) | (with_reducible refine Kd.C_drew ?_)));(case side2 => exact HC0.out);rintro e w7 ⟨v125,rfl,ho0,hb⟩;refine ⟨_,rfl,?_⟩;have n0_:=Aside0.mk (Kd.R_lower (Kd.R_newB ho0 (g:=gb123) (o:=.cells #[.int .u64 a1_0,.int .u64 a1_1] 41 (0,0)) (by (with_reducible repeat (first | refine blk_drewN ?_ _ | refine blk_drew ?_ | refine blk_alloc ?_ _));exact BK123.out)) (below_size (by repeat (first | (with_reducible first | exact HB.out | apply below_alloc | apply pw_below_drewN | apply below_drew1 | refine below_set ?_ GE123.out) | exact HB.out))));have n1_:=Aside0.mk (blk_below (g:=gb123) (o:=.cells #[.int .u64 a1_0,.int .u64 a1_1] 41 (0,0)) (by (with_reducible repeat (first | refine blk_drewN ?_ _ | refine blk_drew ?_ | refine blk_alloc ?_ _));exact BK123.out) hb);have n2_:=Aside0.mk (below_step (by repeat (first | (with_reducible first | exact HB.out | apply below_alloc | apply pw_below_drewN | apply below_drew1 | refine below_set ?_ GE123.out) | exact HB.out)) hb);clear BK123;clear HB;have HO126:=n0_;have BK123:=n1_;have HB:=n2_;clear n0_ n1_ n2_;(try clear hb);(try clear hb2);(try clear hk);(try clear hi);(try clear ho0))))
  (try simp only [Exit.noGoto_ret,Exit.noGoto_normal])
  go_ret
  exact ⟨_,by first | rfl | (simp [errW_none,errW_some] <;> rfl) | (simp [*,errW_none,errW_some] <;> rfl),by (with_reducible repeat (first | apply Kd.R_alloc | apply Kd.R_drewN | apply Kd.R_drew));exact Kd.R_mono HO126.out (fun _ hk => trivial),by repeat (first | (with_reducible first | exact HB.out | apply below_alloc | apply pw_below_drewN | apply below_drew1 | refine below_set ?_ GE123.out) | exact HB.out)⟩
 ·rw [if_neg c3] at H
  have c3b0 : decide (a1_1 ≤ a1_0) = false:=decide_eq_false c3
  clear c3
  have H':=Aside0.mk H
  clear H
  go_enter Try.func19,Try.ntmps19
  go_wp2_with (first | ((with_reducible refine gate_dst (N:=3) rfl ?_);refine box_event ?hg (N:=3) ?hd (cs:=#[.int .u64 a1_0,.int .u64 a1_1]) (t:=41) ?hr ?_;(case hd => rfl);(case hg => rfl);(case hr => first | (go_simp;done) | (go_simp;rfl));intro gb123 hg w8 hbox hb;have n0_:=Aside0.mk (below_step (by repeat (first | (with_reducible first | exact HB.out | apply below_alloc | apply pw_below_drewN | apply below_drew1) | exact HB.out)) hb);have n1_:=Aside0.mk (hbox);have n2_:=Aside0.mk ((by rw [hg];exact (below_size (by repeat (first | (with_reducible first | exact HB.out | apply below_alloc | apply pw_below_drewN | apply below_drew1) | exact HB.out))) : w.heap.size ≤ gb123));have n3_:=Aside0.mk ((by rw [hg];exact (below_size (by repeat (first | (with_reducible first | exact HB.out | apply below_alloc | apply pw_below_drewN | apply below_drew1) | exact HB.out))) : w.heap.size ≤ gb123));clear HB;have HB:=n0_;have BK123:=n1_;have GW123:=n2_;have GE123:=n3_;clear n0_ n1_ n2_ n3_;clear hb hbox hg;have hcz9_0 : w8.cell? ⟨gb123,0,none⟩ = some (.int .u64 a1_0):=(blk_cell BK123.out 0).trans rfl;have hcz9_1 : w8.cell? ⟨gb123,1,none⟩ = some (.int .u64 a1_1):=(blk_cell BK123.out 1).trans rfl;have hfz9_0:=blk_frozen BK123.out 0;have hfz9_1:=blk_frozen BK123.out 1))
  repeat (go_step3;go_wp2_with (first | ((with_reducible refine gate_dst (N:=3) rfl ?_);refine box_event ?hg (N:=3) ?hd (cs:=#[.int .u64 a1_0,.int .u64 a1_1]) (t:=41) ?hr ?_;(case hd => rfl);(case hg => rfl);(case hr => first | (go_simp;done) | (go_simp;rfl));intro gb123 hg w8 hbox hb;have n0_:=Aside0.mk (below_step (by repeat (first | (with_reducible first | exact HB.out | apply below_alloc | apply pw_below_drewN | apply below_drew1) | exact HB.out)) hb);have n1_:=Aside0.mk (hbox);have n2_:=Aside0.mk ((by rw [hg];exact (below_size (by repeat (first | (with_reducible first | exact HB.out | apply below_alloc | apply pw_below_drewN | apply below_drew1) | exact HB.out))) : w.heap.size ≤ gb123));have n3_:=Aside0.mk ((by rw [hg];exact (below_size (by repeat (first | (with_reducible first | exact HB.out | apply below_alloc | apply pw_below_drewN | apply below_drew1) | exact HB.out))) : w.heap.size ≤ gb123));clear HB;have HB:=n0_;have BK123:=n1_;have GW123:=n2_;have GE123:=n3_;clear n0_ n1_ n2_ n3_;clear hb hbox hg;have hcz9_0 : w8.cell? ⟨gb123,0,none⟩ = some (.int .u64 a1_0):=(blk_cell BK123.out 0).trans rfl;have hcz9_1 : w8.cell? ⟨gb123,1,none⟩ = some (.int .u64 a1_1):=(blk_cell BK123.out 1).trans rfl;have hfz9_0:=blk_frozen BK123.out 0;have hfz9_1:=blk_frozen BK123.out 1)))
  go_loopg [5,6] k (fun kq v5 v6 w' => ∃ (x5_1 : List (S41)) (x6_1 : Int) (x124000_1 : Int) (x124001_1 : Int),v6 = .int .i64 x6_1 ∧ Aside0 (span_Add.l0 kq l0 x5_1 x6_1 x124000_1 x124001_1 = some r) ∧ Aside0 (kq ≤ k) ∧ Aside0 (Kd.R k41 41 w' w.heap.size (fun k_ => k_ ≠ gb123) v5 x5_1) ∧ Aside0 (w'.heap[gb123]? = some (.cells #[.int .u64 x124000_1,.int .u64 x124001_1] 41 (0,0))) ∧ Aside0 (Below w.heap.size w w'))
  case atStart => exact ⟨(([] : List (S41))),(0),(a1_0),(a1_1),(by first | rfl | (simp;done) | (simp [*];done)),H',⟨Nat.le_refl _⟩,⟨by first | exact Kd.R_nil _ _ _ _ _ | exact Kd.N_nil _ _ _ _ _ | exact Kd.V_nil _ _ _ _ _ | exact Kd.Q_nil _ _ _ _ _ | exact Kd.S_nil _ _ _ _ _⟩,⟨by (with_reducible repeat (first | refine blk_drewN ?_ _ | refine blk_drew ?_ | refine blk_alloc ?_ _));exact BK123.out⟩,⟨by repeat (first | (with_reducible first | exact HB.out | apply below_alloc | apply pw_below_drewN | apply below_drew1 | refine below_set ?_ GE123.out) | exact HB.out)⟩⟩
  case round =>
   clear H'
   try clear c1
   try clear c2
   try clear p2
   try clear c3
   try clear c3b0
   try clear hcz6_0
   try clear hcz6_1
   try clear hcz9_0
   try clear hcz9_1
   try clear hfz6_0
   try clear hfz6_1
   try clear hfz9_0
   try clear hfz9_1
   obtain ⟨x5_1,x6_1,x124000_1,x124001_1,rfl,HA,HK1,HO_5,BK123,HB⟩:=hrel
   cases gk with
   | zero => exact absurd HA.out (by simp [span_Add.l0])
   | succ k1 =>
    have H:=HA.out
    clear HA
    simp only [span_Add.l0] at H
    by_cases c10 : x6_1 < (l0.length : Int)
    ·rw [if_pos c10] at H
     have c10b0 : decide (x6_1 < (l0.length : Int)) = true:=decide_eq_true c10
     clear c10
     by_cases c11 : 0 ≤ x6_1
     ·rw [if_pos c11] at H
      have c11b0 : decide (0 ≤ x6_1) = true:=decide_eq_true c11
      clear c11
      by_cases c12 : ((rd_T41 l0 x6_1).f1) < x124000_1
      ·rw [if_pos c12] at H
       have c12b0 : decide (((rd_T41 l0 x6_1).f1) < x124000_1) = true:=decide_eq_true c12
       clear c12
       by_cases c13 : x5_1.length < 8796093022208
       ·rw [if_pos c13] at H
        have LMc13:=Aside0.mk c13
        clear c13
        obtain ⟨y139,hy139⟩ : ∃ y_ : List (S41),y_ = (x5_1 ++ [(⟨(rd_T41 l0 x6_1).f0,(rd_T41 l0 x6_1).f1⟩ : S41)]):=⟨_,rfl⟩
        replace H : (span_Add.l0 k1 l0 y139 (wrap64 (x6_1 + 1)) x124000_1 x124001_1) = some r:=by first | (rw [hy139];with_reducible exact H) | (have H2_:=(Option.bind_some _ _).symm.trans H;rw [hy139];with_reducible exact H2_) | (have H2_:=(Option.bind_some _ _).symm.trans H;with_reducible exact H2_) | with_reducible exact H | (rw [hy139];exact H) | exact H
        have Ny139:=Aside0.mk hy139
        clear hy139
        have H':=Aside0.mk H
        clear H
        try go_wp2
        have n0_:=Aside0.mk (Kd.R_drew HO_5.out)
        have n1_:=Aside0.mk (blk_drew BK123.out)
        have n2_:=Aside0.mk (below_drew1 HB.out)
        clear HO_5
        clear BK123
        clear HB
        have HO_5:=n0_
        have BK123:=n1_
        have HB:=n2_
        clear n0_ n1_ n2_
        have p137 : 0 ≤ (x6_1 : Int):=of_decide_eq_true (by first | (with_reducible assumption) | assumption)
        have q137 : x6_1 < (l0.length : Int):=of_decide_eq_true (by first | (with_reducible assumption) | assumption)
        obtain ⟨ad137,e137,hx137_0,hx137_1⟩:=at_T41 HR0.out x6_1 p137 q137
        have hw137_1:=hx137_1
        have hw137_0:=hx137_0
        cases e137
        replace hx137_0:=(HB.out.cell (World.block_lt_of_cell? w _ hx137_0)).trans hx137_0
        replace hx137_1:=(HB.out.cell (World.block_lt_of_cell? w _ hx137_1)).trans hx137_1
        replace p137:=eq_true p137
        replace q137:=eq_true q137
        refine start_ (n:=9) (S:=fun w' => w'.cell? ⟨gb123,0,none⟩ = some (.int .u64 x124000_1) ∧ w'.cell? ⟨gb123,1,none⟩ = some (.int .u64 x124001_1) ∧ w'.cell? (ad137.add ((x6_1).toNat * 2)) = some (.int .u64 ((rd_T41 l0 x6_1).f0)) ∧ w'.cell? ⟨(ad137.add ((x6_1).toNat * 2)).block,(ad137.add ((x6_1).toNat * 2)).off + 1,none⟩ = some (.int .u64 ((rd_T41 l0 x6_1).f1))) (ds:=[]) #[false,false,false,false,false,false,false,false,false] (by kernel_rfl) rfl rfl ⟨(blk_cell BK123.out 0).trans rfl,(blk_cell BK123.out 1).trans rfl,((HB.out.cell (World.block_lt_of_cell? w _ hw137_0)).trans hw137_0),((HB.out.cell (World.block_lt_of_cell? w _ hw137_1)).trans hw137_1)⟩ (fun hHeld => ?_);refine with_tabW span_Add.tab7 span_Add.bits7 (fun HT_ HW_ => ?_)
        generalize wr.drew = w14 at HO_5 BK123 HB hx137_0 hx137_1 hHeld ⊢
        refine pure_ (i:=0) (N:=some 21) (v:=?_) (a':=?_) #[true,false,false,false,false,false,false,false,false] rfl rfl (any_of HT_.out (by kernel_rfl)) (fun _ _ _ h => h) (Or.inl ⟨by rfl,?_⟩) ?_ ?_
        rotate_left
        ·intro w'
         go_simp
         with_reducible rfl
        rotate_left
        ·simp only [Act.put,List.setIfInBounds_toArray,List.set_cons_zero,List.set_cons_succ,i64_w,i32_w]
         rfl
        refine pure_ (i:=1) (N:=some 22) (v:=?_) (a':=?_) #[true,true,false,false,false,false,false,false,false] rfl rfl (any_of HT_.out (by kernel_rfl)) (fun _ _ _ h => h) (Or.inl ⟨by rfl,?_⟩) ?_ ?_
        rotate_left
        ·intro w'
         go_simp
         with_reducible rfl
        rotate_left
        ·simp only [Act.put,List.setIfInBounds_toArray,List.set_cons_zero,List.set_cons_succ,i64_w,i32_w]
         rfl
        refine pure_ (i:=2) (N:=some 23) (v:=?_) (a':=?_) #[true,true,true,false,false,false,false,false,false] rfl rfl (any_of HT_.out (by kernel_rfl)) (fun _ _ _ h => h) (Or.inl ⟨by rfl,?_⟩) ?_ ?_
        rotate_left
        ·intro w'
         go_simp
         with_reducible rfl
        rotate_left
        ·simp only [Act.put,List.setIfInBounds_toArray,List.set_cons_zero,List.set_cons_succ,i64_w,i32_w]
         rfl
        refine pure_ (i:=3) (N:=some 24) (v:=?_) (a':=?_) #[true,true,true,true,false,false,false,false,false] rfl rfl (any_of HT_.out (by kernel_rfl)) (fun _ _ _ h => h) (Or.inl ⟨by rfl,?_⟩) ?_ ?_
        rotate_left
        ·intro w'
         go_simp
         with_reducible rfl
        rotate_left
        ·simp only [Act.put,List.setIfInBounds_toArray,List.set_cons_zero,List.set_cons_succ,i64_w,i32_w]
         rfl
        refine pure_ (i:=5) (N:=some 26) (v:=?_) (a':=?_) #[true,true,true,true,false,true,false,false,false] rfl rfl (any_of HT_.out (by kernel_rfl)) (fun _ _ _ h => h) (Or.inl ⟨by rfl,?_⟩) ?_ ?_
        rotate_left
        ·intro w'
         go_simp
         with_reducible rfl
        rotate_left
        ·simp only [Act.put,List.setIfInBounds_toArray,List.set_cons_zero,List.set_cons_succ,i64_w,i32_w]
         rfl
        refine take_ (i:=4) (N:=some 25) (v:=?_) (a':=?_) #[true,true,true,true,true,true,false,false,false] rfl rfl (take_ofW HT_.out HW_.out (by kernel_rfl)) (fun _ _ _ h => h) (Or.inl ⟨by rfl,?_⟩) hHeld ?_ ?_
        rotate_left
        ·rintro w' ⟨s0,s1,s2,s3⟩
         go_simp
         with_reducible rfl
        rotate_left
        ·simp only [Act.put,List.setIfInBounds_toArray,List.set_cons_zero,List.set_cons_succ,i64_w,i32_w]
         rfl
        refine take_ (i:=6) (N:=some 27) (v:=?_) (a':=?_) #[true,true,true,true,true,true,true,false,false] rfl rfl (take_ofW HT_.out HW_.out (by kernel_rfl)) (fun _ _ _ h => h) (Or.inl ⟨by rfl,?_⟩) hHeld ?_ ?_
        rotate_left
        ·rintro w' ⟨s0,s1,s2,s3⟩
         go_simp
         with_reducible rfl
        rotate_left
        ·simp only [Act.put,List.setIfInBounds_toArray,List.set_cons_zero,List.set_cons_succ,i64_w,i32_w]
         rfl
        refine pure_ (i:=7) (N:=some 28) (v:=?_) (a':=?_) #[true,true,true,true,true,true,true,true,false] rfl rfl (any_of HT_.out (by kernel_rfl)) (fun _ _ _ h => h) (Or.inl ⟨by rfl,?_⟩) ?_ ?_
        rotate_left
        ·intro w'
         go_simp
         with_reducible rfl
        rotate_left
        ·simp only [Act.put,List.setIfInBounds_toArray,List.set_cons_zero,List.set_cons_succ,i64_w,i32_w]
         rfl
        refine pure_ (i:=8) (N:=some 20) (v:=?_) (a':=?_) #[true,true,true,true,true,true,true,true,true] rfl rfl (any_of HT_.out (by kernel_rfl)) (fun _ _ _ h => h) (Or.inl ⟨by rfl,?_⟩) ?_ ?_
        rotate_left
        ·intro w'
         go_simp
         with_reducible rfl
        rotate_left
        ·simp only [Act.put,List.setIfInBounds_toArray,List.set_cons_zero,List.set_cons_succ,i64_w,i32_w]
         rfl
        refine done_ (done_of HT_.out (by kernel_rfl)) ?_
        have p138 : 0 ≤ (x6_1 : Int):=of_decide_eq_true (by first | (with_reducible assumption) | assumption)
        have q138 : x6_1 < (l0.length : Int):=of_decide_eq_true (by first | (with_reducible assumption) | assumption)
        obtain ⟨ad138,e138,hx138_0,hx138_1⟩:=at_T41 HR0.out x6_1 p138 q138
        obtain rfl : ad137 = ad138:=(by injection e138)
        replace hx138_0:=(HB.out.cell (World.block_lt_of_cell? w _ hx138_0)).trans hx138_0
        replace hx138_1:=(HB.out.cell (World.block_lt_of_cell? w _ hx138_1)).trans hx138_1
        replace p138:=eq_true p138
        replace q138:=eq_true q138
        try go_wp2_with (first | ((with_reducible refine gate_builtin (b:=.append) (xs:=#[.tmp 29,.tmp 34]) rfl ?_);at_builtin;refine Kd.R_append k41 (w0:=w) w.heap.size rfl (.tmp 29) (.tmp 34) 26 41 (.agg #[(.int .u64 0),(.int .u64 0)]) 16 rfl Try.underlying26 info41 rfl (by decide) (by omega) u5 x5_1 (⟨(rd_T41 l0 x6_1).f0,(rd_T41 l0 x6_1).f1⟩ : S41) [.int .u64 ((rd_T41 l0 x6_1).f0),.int .u64 ((rd_T41 l0 x6_1).f1)] (fun k_ => k_ ≠ gb123) (fun _ => False) rfl rfl ?aP (fun _ hk => hk.elim) ?aF ?aO ?aB ?aS ?aL ?_;(case aP => exact k41_mkM _ _ _ (⟨(rd_T41 l0 x6_1).f0,(rd_T41 l0 x6_1).f1⟩ : S41));(case aB => exact (by repeat (first | (with_reducible first | exact HB.out | apply below_alloc | apply pw_below_drewN | apply below_drew1 | refine below_set ?_ GE123.out) | exact HB.out)));(case aF => exact (fun k_ hk => Kd.freshB (g:=gb123) (o:=.cells #[.int .u64 x124000_1,.int .u64 x124001_1] 41 (0,0)) (by (with_reducible repeat (first | refine blk_drewN ?_ _ | refine blk_drew ?_ | refine blk_alloc ?_ _));exact BK123.out) k_ hk));(case aO => exact (by (with_reducible repeat (first | apply Kd.R_alloc | apply Kd.R_drewN | apply Kd.R_drew));exact HO_5.out));(case aS => exact (below_size (by repeat (first | (with_reducible first | exact HB.out | apply below_alloc | apply pw_below_drewN | apply below_drew1 | refine below_set ?_ GE123.out) | exact HB.out))));(case aL => have:=LMc13.out;omega);intro v140 w15 ho hb hg hat;rw [← Ny139.out] at ho;have n0_:=Aside0.mk (blk_grown (g:=gb123) (o:=.cells #[.int .u64 x124000_1,.int .u64 x124001_1] 41 (0,0)) (by (with_reducible repeat (first | refine blk_drewN ?_ _ | refine blk_drew ?_ | refine blk_alloc ?_ _));exact BK123.out) hg (Kd.R_away HO_5.out (fun _ hk => hk)));have n1_:=Aside0.mk (hb);have n2_:=Aside0.mk (ho);clear BK123;clear HB;clear HO_5;have BK123:=n0_;have HB:=n1_;have HO141:=n2_;clear n0_ n1_ n2_;clear ho hb hg hat))
        go_roundg k1
        case measure => have:=HK1.out;omega
        case rel => exact ⟨(y139),(wrap64 (x6_1 + 1)),(x124000_1),(x124001_1),(by first | rfl | (simp;done) | (simp [*];done)),H',⟨by have:=HK1.out;omega⟩,⟨by (with_reducible repeat (first | apply Kd.R_alloc | apply Kd.R_drewN | apply Kd.R_drew));exact HO141.out⟩,⟨by (with_reducible repeat (first | refine blk_drewN ?_ _ | refine blk_drew ?_ | refine blk_alloc ?_ _));exact BK123.out⟩,⟨by repeat (first | (with_reducible first | exact HB.out | apply below_alloc | apply pw_below_drewN | apply below_drew1 | refine below_set ?_ GE123.out) | exact HB.out)⟩⟩
       ·rw [if_neg c13] at H
        exact absurd H (by simp)
      ·rw [if_neg c12] at H
       have c12b0 : decide (((rd_T41 l0 x6_1).f1) < x124000_1) = false:=decide_eq_false c12
       clear c12
       by_cases c16 : ((rd_T41 l0 x6_1).f0) > x124001_1
       ·rw [if_pos c16] at H
        have c16b0 : decide (x124001_1 < ((rd_T41 l0 x6_1).f0)) = true:=decide_eq_true c16
        clear c16
        by_cases c17 : x5_1.length < 8796093022208
        ·rw [if_pos c17] at H
         have LMc17:=Aside0.mk c17
         clear c17
         obtain ⟨y143,hy143⟩ : ∃ y_ : List (S41),y_ = (x5_1 ++ [(⟨x124000_1,x124001_1⟩ : S41)]):=⟨_,rfl⟩
         replace H : (if x6_1 ≤ (l0.length : Int) then ((some (l0.drop (x6_1 : Int).toNat : List (S41))).bind fun y146 => (if y143.length + y146.length < 8796093022208 then (some (y143 ++ y146)) else (none))) else (none)) = some r:=by first | (rw [hy143];with_reducible exact H) | (have H2_:=(Option.bind_some _ _).symm.trans H;rw [hy143];with_reducible exact H2_) | (have H2_:=(Option.bind_some _ _).symm.trans H;with_reducible exact H2_) | with_reducible exact H | (rw [hy143];exact H) | exact H
         have Ny143:=Aside0.mk hy143
         clear hy143
         have c18b0:=eq_true (of_decide_eq_true (by first | (with_reducible assumption) | assumption) : 0 ≤ x6_1)
         by_cases c19 : x6_1 ≤ (l0.length : Int)
         ·rw [if_pos c19] at H
          have c19b0:=eq_true c19
          have c19b1 : decide (x6_1 ≤ (l0.length : Int)) = true:=decide_eq_true c19
          clear c19
          obtain ⟨y146,hy146⟩ : ∃ y_ : List (S41),y_ = (l0.drop (x6_1 : Int).toNat):=⟨_,rfl⟩
          replace H : (if y143.length + y146.length < 8796093022208 then (some (y143 ++ y146)) else (none)) = some r:=by first | (rw [hy146];with_reducible exact H) | (have H2_:=(Option.bind_some _ _).symm.trans H;rw [hy146];with_reducible exact H2_) | (have H2_:=(Option.bind_some _ _).symm.trans H;with_reducible exact H2_) | with_reducible exact H | (rw [hy146];exact H) | exact H
          have Ny146:=Aside0.mk hy146
          clear hy146
          by_cases c20 : y143.length + y146.length < 8796093022208
          ·rw [if_pos c20] at H
           have LMc20:=Aside0.mk c20
           clear c20
           obtain ⟨y150,hy150⟩ : ∃ y_ : List (S41),y_ = (y143 ++ y146):=⟨_,rfl⟩
           replace H : (some y150) = some r:=by first | (rw [hy150];with_reducible exact H) | (have H2_:=(Option.bind_some _ _).symm.trans H;rw [hy150];with_reducible exact H2_) | (have H2_:=(Option.bind_some _ _).symm.trans H;with_reducible exact H2_) | with_reducible exact H | (rw [hy150];exact H) | exact H
           have Ny150:=Aside0.mk hy150
           clear hy150
           obtain rfl:=Option.some.inj H
           try go_wp2
           have n0_:=Aside0.mk (Kd.R_drew HO_5.out)
           have n1_:=Aside0.mk (blk_drew BK123.out)
           have n2_:=Aside0.mk (below_drew1 HB.out)
           clear HO_5
           clear BK123
           clear HB
           have HO_5:=n0_
           have BK123:=n1_
           have HB:=n2_
           clear n0_ n1_ n2_
           have p137 : 0 ≤ (x6_1 : Int):=of_decide_eq_true (by first | (with_reducible assumption) | assumption)
           have q137 : x6_1 < (l0.length : Int):=of_decide_eq_true (by first | (with_reducible assumption) | assumption)
           obtain ⟨ad137,e137,hx137_0,hx137_1⟩:=at_T41 HR0.out x6_1 p137 q137
           have hw137_1:=hx137_1
           have hw137_0:=hx137_0
           cases e137
           replace hx137_0:=(HB.out.cell (World.block_lt_of_cell? w _ hx137_0)).trans hx137_0
           replace hx137_1:=(HB.out.cell (World.block_lt_of_cell? w _ hx137_1)).trans hx137_1
           replace p137:=eq_true p137
           replace q137:=eq_true q137
           refine start_ (n:=9) (S:=fun w' => w'.cell? ⟨gb123,0,none⟩ = some (.int .u64 x124000_1) ∧ w'.cell? ⟨gb123,1,none⟩ = some (.int .u64 x124001_1) ∧ w'.cell? (ad137.add ((x6_1).toNat * 2)) = some (.int .u64 ((rd_T41 l0 x6_1).f0)) ∧ w'.cell? ⟨(ad137.add ((x6_1).toNat * 2)).block,(ad137.add ((x6_1).toNat * 2)).off + 1,none⟩ = some (.int .u64 ((rd_T41 l0 x6_1).f1))) (ds:=[]) #[false,false,false,false,false,false,false,false,false] (by kernel_rfl) rfl rfl ⟨(blk_cell BK123.out 0).trans rfl,(blk_cell BK123.out 1).trans rfl,((HB.out.cell (World.block_lt_of_cell? w _ hw137_0)).trans hw137_0),((HB.out.cell (World.block_lt_of_cell? w _ hw137_1)).trans hw137_1)⟩ (fun hHeld => ?_);refine with_tabW span_Add.tab7 span_Add.bits7 (fun HT_ HW_ => ?_)
           generalize wr.drew = w21 at HO_5 BK123 HB hx137_0 hx137_1 hHeld ⊢
           refine pure_ (i:=0) (N:=some 21) (v:=?_) (a':=?_) #[true,false,false,false,false,false,false,false,false] rfl rfl (any_of HT_.out (by kernel_rfl)) (fun _ _ _ h => h) (Or.inl ⟨by rfl,?_⟩) ?_ ?_
           rotate_left
           ·intro w'
            go_simp
            with_reducible rfl
           rotate_left
           ·simp only [Act.put,List.setIfInBounds_toArray,List.set_cons_zero,List.set_cons_succ,i64_w,i32_w]
            rfl
           refine pure_ (i:=1) (N:=some 22) (v:=?_) (a':=?_) #[true,true,false,false,false,false,false,false,false] rfl rfl (any_of HT_.out (by kernel_rfl)) (fun _ _ _ h => h) (Or.inl ⟨by rfl,?_⟩) ?_ ?_
           rotate_left
           ·intro w'
            go_simp
            with_reducible rfl
           rotate_left
           ·simp only [Act.put,List.setIfInBounds_toArray,List.set_cons_zero,List.set_cons_succ,i64_w,i32_w]
            rfl
           refine pure_ (i:=2) (N:=some 23) (v:=?_) (a':=?_) #[true,true,true,false,false,false,false,false,false] rfl rfl (any_of HT_.out (by kernel_rfl)) (fun _ _ _ h => h) (Or.inl ⟨by rfl,?_⟩) ?_ ?_
           rotate_left
           ·intro w'
            go_simp
            with_reducible rfl
           rotate_left
           ·simp only [Act.put,List.setIfInBounds_toArray,List.set_cons_zero,List.set_cons_succ,i64_w,i32_w]
            rfl
           refine pure_ (i:=3) (N:=some 24) (v:=?_) (a':=?_) #[true,true,true,true,false,false,false,false,false] rfl rfl (any_of HT_.out (by kernel_rfl)) (fun _ _ _ h => h) (Or.inl ⟨by rfl,?_⟩) ?_ ?_
           rotate_left
           ·intro w'
            go_simp
            with_reducible rfl
           rotate_left
           ·simp only [Act.put,List.setIfInBounds_toArray,List.set_cons_zero,List.set_cons_succ,i64_w,i32_w]
            rfl
           refine pure_ (i:=5) (N:=some 26) (v:=?_) (a':=?_) #[true,true,true,true,false,true,false,false,false] rfl rfl (any_of HT_.out (by kernel_rfl)) (fun _ _ _ h => h) (Or.inl ⟨by rfl,?_⟩) ?_ ?_
           rotate_left
           ·intro w'
            go_simp
            with_reducible rfl
           rotate_left
           ·simp only [Act.put,List.setIfInBounds_toArray,List.set_cons_zero,List.set_cons_succ,i64_w,i32_w]
            rfl
           refine take_ (i:=4) (N:=some 25) (v:=?_) (a':=?_) #[true,true,true,true,true,true,false,false,false] rfl rfl (take_ofW HT_.out HW_.out (by kernel_rfl)) (fun _ _ _ h => h) (Or.inl ⟨by rfl,?_⟩) hHeld ?_ ?_
           rotate_left
           ·rintro w' ⟨s0,s1,s2,s3⟩
            go_simp
            with_reducible rfl
           rotate_left
           ·simp only [Act.put,List.setIfInBounds_toArray,List.set_cons_zero,List.set_cons_succ,i64_w,i32_w]
            rfl
           refine take_ (i:=6) (N:=some 27) (v:=?_) (a':=?_) #[true,true,true,true,true,true,true,false,false] rfl rfl (take_ofW HT_.out HW_.out (by kernel_rfl)) (fun _ _ _ h => h) (Or.inl ⟨by rfl,?_⟩) hHeld ?_ ?_
           rotate_left
           ·rintro w' ⟨s0,s1,s2,s3⟩
            go_simp
            with_reducible rfl
           rotate_left
           ·simp only [Act.put,List.setIfInBounds_toArray,List.set_cons_zero,List.set_cons_succ,i64_w,i32_w]
            rfl
           refine pure_ (i:=7) (N:=some 28) (v:=?_) (a':=?_) #[true,true,true,true,true,true,true,true,false] rfl rfl (any_of HT_.out (by kernel_rfl)) (fun _ _ _ h => h) (Or.inl ⟨by rfl,?_⟩) ?_ ?_
           rotate_left
           ·intro w'
            go_simp
            with_reducible rfl
           rotate_left
           ·simp only [Act.put,List.setIfInBounds_toArray,List.set_cons_zero,List.set_cons_succ,i64_w,i32_w]
            rfl
           refine pure_ (i:=8) (N:=some 20) (v:=?_) (a':=?_) #[true,true,true,true,true,true,true,true,true] rfl rfl (any_of HT_.out (by kernel_rfl)) (fun _ _ _ h => h) (Or.inl ⟨by rfl,?_⟩) ?_ ?_
           rotate_left
           ·intro w'
            go_simp
            with_reducible rfl
           rotate_left
           ·simp only [Act.put,List.setIfInBounds_toArray,List.set_cons_zero,List.set_cons_succ,i64_w,i32_w]
            rfl
           refine done_ (done_of HT_.out (by kernel_rfl)) ?_
           try go_wp2
           have n0_:=Aside0.mk (Kd.R_drew HO_5.out)
           have n1_:=Aside0.mk (blk_drew BK123.out)
           have n2_:=Aside0.mk (below_drew1 HB.out)
           clear HO_5
           clear BK123
           clear HB
           have HO_5:=n0_
           have BK123:=n1_
           have HB:=n2_
           clear n0_ n1_ n2_
           have p142 : 0 ≤ (x6_1 : Int):=of_decide_eq_true (by first | (with_reducible assumption) | assumption)
           have q142 : x6_1 < (l0.length : Int):=of_decide_eq_true (by first | (with_reducible assumption) | assumption)
           obtain ⟨ad142,e142,hx142_0,hx142_1⟩:=at_T41 HR0.out x6_1 p142 q142
           have hw142_1:=hx142_1
           have hw142_0:=hx142_0
           obtain rfl : ad137 = ad142:=(by injection e142)
           replace hx142_0:=(HB.out.cell (World.block_lt_of_cell? w _ hx142_0)).trans hx142_0
           replace hx142_1:=(HB.out.cell (World.block_lt_of_cell? w _ hx142_1)).trans hx142_1
           replace p142:=eq_true p142
           replace q142:=eq_true q142
           refine start_ (n:=9) (S:=fun w' => w'.cell? ⟨gb123,0,none⟩ = some (.int .u64 x124000_1) ∧ w'.cell? ⟨gb123,1,none⟩ = some (.int .u64 x124001_1) ∧ w'.cell? (ad137.add ((x6_1).toNat * 2)) = some (.int .u64 ((rd_T41 l0 x6_1).f0)) ∧ w'.cell? ⟨(ad137.add ((x6_1).toNat * 2)).block,(ad137.add ((x6_1).toNat * 2)).off + 1,none⟩ = some (.int .u64 ((rd_T41 l0 x6_1).f1))) (ds:=[]) #[false,false,false,false,false,false,false,false,false] (by kernel_rfl) rfl rfl ⟨(blk_cell BK123.out 0).trans rfl,(blk_cell BK123.out 1).trans rfl,((HB.out.cell (World.block_lt_of_cell? w _ hw142_0)).trans hw142_0),((HB.out.cell (World.block_lt_of_cell? w _ hw142_1)).trans hw142_1)⟩ (fun hHeld => ?_);refine with_tabW span_Add.tab9 span_Add.bits9 (fun HT_ HW_ => ?_)
           generalize w21.drew = w22 at HO_5 BK123 HB hx142_0 hx142_1 hHeld ⊢
           refine pure_ (i:=0) (N:=some 37) (v:=?_) (a':=?_) #[true,false,false,false,false,false,false,false,false] rfl rfl (any_of HT_.out (by kernel_rfl)) (fun _ _ _ h => h) (Or.inl ⟨by rfl,?_⟩) ?_ ?_
           rotate_left
           ·intro w'
            go_simp
            with_reducible rfl
           rotate_left
           ·simp only [Act.put,List.setIfInBounds_toArray,List.set_cons_zero,List.set_cons_succ,i64_w,i32_w]
            rfl
           refine pure_ (i:=1) (N:=some 38) (v:=?_) (a':=?_) #[true,true,false,false,false,false,false,false,false] rfl rfl (any_of HT_.out (by kernel_rfl)) (fun _ _ _ h => h) (Or.inl ⟨by rfl,?_⟩) ?_ ?_
           rotate_left
           ·intro w'
            go_simp
            with_reducible rfl
           rotate_left
           ·simp only [Act.put,List.setIfInBounds_toArray,List.set_cons_zero,List.set_cons_succ,i64_w,i32_w]
            rfl
           refine pure_ (i:=2) (N:=some 39) (v:=?_) (a':=?_) #[true,true,true,false,false,false,false,false,false] rfl rfl (any_of HT_.out (by kernel_rfl)) (fun _ _ _ h => h) (Or.inl ⟨by rfl,?_⟩) ?_ ?_
           rotate_left
           ·intro w'
            go_simp
            with_reducible rfl
           rotate_left
           ·simp only [Act.put,List.setIfInBounds_toArray,List.set_cons_zero,List.set_cons_succ,i64_w,i32_w]
            rfl
           refine pure_ (i:=3) (N:=some 40) (v:=?_) (a':=?_) #[true,true,true,true,false,false,false,false,false] rfl rfl (any_of HT_.out (by kernel_rfl)) (fun _ _ _ h => h) (Or.inl ⟨by rfl,?_⟩) ?_ ?_
           rotate_left
           ·intro w'
            go_simp
            with_reducible rfl
           rotate_left
           ·simp only [Act.put,List.setIfInBounds_toArray,List.set_cons_zero,List.set_cons_succ,i64_w,i32_w]
            rfl
           refine pure_ (i:=5) (N:=some 42) (v:=?_) (a':=?_) #[true,true,true,true,false,true,false,false,false] rfl rfl (any_of HT_.out (by kernel_rfl)) (fun _ _ _ h => h) (Or.inl ⟨by rfl,?_⟩) ?_ ?_
           rotate_left
           ·intro w'
            go_simp
            with_reducible rfl
           rotate_left
           ·simp only [Act.put,List.setIfInBounds_toArray,List.set_cons_zero,List.set_cons_succ,i64_w,i32_w]
            rfl
           refine take_ (i:=4) (N:=some 41) (v:=?_) (a':=?_) #[true,true,true,true,true,true,false,false,false] rfl rfl (take_ofW HT_.out HW_.out (by kernel_rfl)) (fun _ _ _ h => h) (Or.inl ⟨by rfl,?_⟩) hHeld ?_ ?_
           rotate_left
           ·rintro w' ⟨s0,s1,s2,s3⟩
            go_simp
            with_reducible rfl
           rotate_left
           ·simp only [Act.put,List.setIfInBounds_toArray,List.set_cons_zero,List.set_cons_succ,i64_w,i32_w]
            rfl
           refine take_ (i:=6) (N:=some 43) (v:=?_) (a':=?_) #[true,true,true,true,true,true,true,false,false] rfl rfl (take_ofW HT_.out HW_.out (by kernel_rfl)) (fun _ _ _ h => h) (Or.inl ⟨by rfl,?_⟩) hHeld ?_ ?_
           rotate_left
           ·rintro w' ⟨s0,s1,s2,s3⟩
            go_simp
            with_reducible rfl
           rotate_left
           ·simp only [Act.put,List.setIfInBounds_toArray,List.set_cons_zero,List.set_cons_succ,i64_w,i32_w]
            rfl
           refine pure_ (i:=7) (N:=some 44) (v:=?_) (a':=?_) #[true,true,true,true,true,true,true,true,false] rfl rfl (any_of HT_.out (by kernel_rfl)) (fun _ _ _ h => h) (Or.inl ⟨by rfl,?_⟩) ?_ ?_
           rotate_left
           ·intro w'
            go_simp
            with_reducible rfl
           rotate_left
           ·simp only [Act.put,List.setIfInBounds_toArray,List.set_cons_zero,List.set_cons_succ,i64_w,i32_w]
            rfl
           refine pure_ (i:=8) (N:=some 36) (v:=?_) (a':=?_) #[true,true,true,true,true,true,true,true,true] rfl rfl (any_of HT_.out (by kernel_rfl)) (fun _ _ _ h => h) (Or.inl ⟨by rfl,?_⟩) ?_ ?_
           rotate_left
           ·intro w'
            go_simp
            with_reducible rfl
           rotate_left
           ·simp only [Act.put,List.setIfInBounds_toArray,List.set_cons_zero,List.set_cons_succ,i64_w,i32_w]
            rfl
           refine done_ (done_of HT_.out (by kernel_rfl)) ?_
           try go_wp2
           have n0_:=Aside0.mk (Kd.R_drew HO_5.out)
           have n1_:=Aside0.mk (blk_drew BK123.out)
           have n2_:=Aside0.mk (below_drew1 HB.out)
           clear HO_5
           clear BK123
           clear HB
           have HO_5:=n0_
           have BK123:=n1_
           have HB:=n2_
           clear n0_ n1_ n2_
           have q24 : (x6_1 : Int) ≤ ((l0.length : Int) : Int):=of_decide_eq_true (by first | (with_reducible assumption) | assumption)
           obtain ⟨i024,hi024,_,hsz24,_⟩:=info_parts info41
           have hroom24 : l0.length ≤ c0:=HC0.out
           have hC24 : Kd.C k41 _ (some ad137) l0.length l0:=HR0.out
           have q024 : (0 : Int) ≤ (x6_1 : Int):=of_decide_eq_true (by first | (with_reducible assumption) | assumption)
           have hcut24:=cut_from (P:=Try.prog) 26 41 .i64 Try.underlying26 hi024 2 hsz24 (some ad137) l0.length c0 x6_1 q024 q24
           have hr24:=Kd.C_drop (m:=(x6_1 : Int).toNat) (c:=c0) hC24 (by omega) hroom24
           obtain ⟨A24,hA24⟩ : ∃ A1,A1 = (if c0 = (x6_1 : Int).toNat then (some ad137) else ((some ad137) : Option Addr).map (·.add ((x6_1 : Int).toNat * 2))):=⟨_,rfl⟩
           obtain ⟨c24,hc24⟩ : ∃ c1,c1 = c0 - (x6_1 : Int).toNat:=⟨_,rfl⟩
           have hy24 : y146.length = l0.length - (x6_1 : Int).toNat:=(by rw [Ny146.out,List.length_drop] <;> omega)
           rw [show (l0).drop (x6_1 : Int).toNat = y146 from Ny146.out.symm] at hr24
           replace hr24 : Kd.C k41 _ A24 y146.length y146:=(by rw [hA24];exact hr24)
           rw [← hy24,← hA24,← hc24] at hcut24
           have HR149:=Aside0.mk hr24
           have HC149:=Aside0.mk (show y146.length ≤ c24 from by rw [hy24,hc24];exact Nat.sub_le_sub_right hroom24 _)
           clear hr24 hC24 hroom24 hi024 hsz24 hc24
           have KY24:=Aside0.mk hy24
           have KA24:=Aside0.mk hA24
           clear hy24 hA24
           replace q24:=eq_true q24
           refine start_ (n:=9) (S:=fun w' => w'.cell? ⟨gb123,0,none⟩ = some (.int .u64 x124000_1) ∧ w'.cell? ⟨gb123,1,none⟩ = some (.int .u64 x124001_1)) (ds:=[]) #[false,false,false,false,false,false,false,false,false] (by kernel_rfl) rfl rfl ⟨(blk_cell BK123.out 0).trans rfl,(blk_cell BK123.out 1).trans rfl⟩ (fun hHeld => ?_);refine with_tabW span_Add.tab11 span_Add.bits11 (fun HT_ HW_ => ?_)
           generalize w22.drew = w23 at HO_5 BK123 HB HR149 hHeld ⊢
           refine pure_ (i:=0) (N:=some 63) (v:=?_) (a':=?_) #[true,false,false,false,false,false,false,false,false] rfl rfl (any_of HT_.out (by kernel_rfl)) (fun _ _ _ h => h) (Or.inl ⟨by rfl,?_⟩) ?_ ?_
           rotate_left
           ·intro w'
            go_simp
            with_reducible rfl
           rotate_left
           ·simp only [Act.put,List.setIfInBounds_toArray,List.set_cons_zero,List.set_cons_succ,i64_w,i32_w]
            rfl
           refine pure_ (i:=4) (N:=some 67) (v:=?_) (a':=?_) #[true,false,false,false,true,false,false,false,false] rfl rfl (any_of HT_.out (by kernel_rfl)) (fun _ _ _ h => h) (Or.inl ⟨by rfl,?_⟩) ?_ ?_
           rotate_left
           ·intro w'
            go_simp
            with_reducible rfl
           rotate_left
           ·simp only [Act.put,List.setIfInBounds_toArray,List.set_cons_zero,List.set_cons_succ,i64_w,i32_w]
            rfl
           refine pure_ (i:=5) (N:=some 68) (v:=?_) (a':=?_) #[true,false,false,false,true,true,false,false,false] rfl rfl (any_of HT_.out (by kernel_rfl)) (fun _ _ _ h => h) (Or.inl ⟨by rfl,?_⟩) ?_ ?_
           rotate_left
           ·intro w'
            go_simp
            with_reducible rfl
           rotate_left
           ·simp only [Act.put,List.setIfInBounds_toArray,List.set_cons_zero,List.set_cons_succ,i64_w,i32_w]
            rfl
           refine pure_ (i:=6) (N:=some 69) (v:=?_) (a':=?_) #[true,false,false,false,true,true,true,false,false] rfl rfl (any_of HT_.out (by kernel_rfl)) (fun _ _ _ h => h) (Or.inl ⟨by rfl,?_⟩) ?_ ?_
           rotate_left
           ·intro w'
            go_simp
            with_reducible rfl
           rotate_left
           ·simp only [Act.put,List.setIfInBounds_toArray,List.set_cons_zero,List.set_cons_succ,i64_w,i32_w]
            rfl
           refine take_ (i:=1) (N:=some 64) (v:=?_) (a':=?_) #[true,true,false,false,true,true,true,false,false] rfl rfl (take_ofW HT_.out HW_.out (by kernel_rfl)) (fun _ _ _ h => h) (Or.inl ⟨by rfl,?_⟩) hHeld ?_ ?_
           rotate_left
           ·rintro w' ⟨s0,s1⟩
            go_simp
            with_reducible rfl
           rotate_left
           ·simp only [Act.put,List.setIfInBounds_toArray,List.set_cons_zero,List.set_cons_succ,i64_w,i32_w]
            rfl
           refine one_ (i:=2) (N:=some 65) #[true,true,true,false,true,true,true,false,false] rfl rfl (one_of HT_.out (by kernel_rfl)) (by decide) (fun K hK => ?_)
           refine value_ (w1:=?_) (v:=?_) (by rfl) rfl ?_ ?_
           rotate_left 2
           ·go_simp
            constructor
            ·rfl
            ·rfl
           refine hK.out _ _ ⟨(blk_cell (blk_alloc BK123.out _) 0).trans rfl,(blk_cell (blk_alloc BK123.out _) 1).trans rfl⟩ (fun hHeld => ?_)
           clear hK K
           refine norm_ (a':=?_) ?_ ?_
           rotate_left
           ·show Act.put _ (some 65) _ = _
            simp only [Act.put,List.setIfInBounds_toArray,List.set_cons_zero,List.set_cons_succ,i64_w,i32_w]
            rfl
           refine one_ (i:=3) (N:=some 66) #[true,true,true,true,true,true,true,false,false] rfl rfl (one_of HT_.out (by kernel_rfl)) (by decide) (fun K hK => ?_)
           refine Kd.R_append_step k41 (w0:=w) w.heap.size (by rfl) (.tmp 63) (.tmp 65) 26 41 (.agg #[(.int .u64 0),(.int .u64 0)]) 16 rfl Try.underlying26 info41 rfl (by decide) (by omega) u5 x5_1 (⟨x124000_1,x124001_1⟩ : S41) [.int .u64 x124000_1,.int .u64 x124001_1] (fun k_ => k_ ≠ gb123) (fun _ => False) rfl rfl ?aP (fun _ hk => hk.elim) ?aF ?aO ?aB ?aS ?aL ?_
           (case aP => exact k41_mkM _ _ _ (⟨x124000_1,x124001_1⟩ : S41))
           (case aB => exact (by repeat (first | (with_reducible first | exact HB.out | apply below_alloc | apply pw_below_drewN | apply below_drew1 | refine below_set ?_ GE123.out) | exact HB.out)))
           (case aF => exact (fun k_ hk => Kd.freshB (g:=gb123) (o:=.cells #[.int .u64 x124000_1,.int .u64 x124001_1] 41 (0,0)) (by (with_reducible repeat (first | refine blk_drewN ?_ _ | refine blk_drew ?_ | refine blk_alloc ?_ _));exact BK123.out) k_ hk))
           (case aO => exact (by (with_reducible repeat (first | apply Kd.R_alloc | apply Kd.R_drewN | apply Kd.R_drew));exact HO_5.out))
           (case aS => exact (below_size (by repeat (first | (with_reducible first | exact HB.out | apply below_alloc | apply pw_below_drewN | apply below_drew1 | refine below_set ?_ GE123.out) | exact HB.out))))
           (case aL => have:=LMc17.out;omega)
           intro v144 w25 ho hb hg hat
           rw [← Ny143.out] at ho
           have n0_:=Aside0.mk (blk_grown (g:=gb123) (o:=.cells #[.int .u64 x124000_1,.int .u64 x124001_1] 41 (0,0)) (by (with_reducible repeat (first | refine blk_drewN ?_ _ | refine blk_drew ?_ | refine blk_alloc ?_ _));exact BK123.out) hg (Kd.R_away HO_5.out (fun _ hk => hk)))
           have n1_:=Aside0.mk (hb)
           have n2_:=Aside0.mk (ho)
           clear BK123
           clear HB
           clear HO_5
           have BK123:=n0_
           have HB:=n1_
           have HO145:=n2_
           clear n0_ n1_ n2_
           clear ho hb hg hat
           refine hK.out _ _ ⟨(blk_cell BK123.out 0).trans rfl,(blk_cell BK123.out 1).trans rfl⟩ (fun hHeld => ?_)
           clear hK K
           refine norm_ (a':=?_) ?_ ?_
           rotate_left
           ·show Act.put _ (some 66) _ = _
            simp only [Act.put,List.setIfInBounds_toArray,List.set_cons_zero,List.set_cons_succ,i64_w,i32_w]
            rfl
           refine one_ (i:=7) (N:=some 70) #[true,true,true,true,true,true,true,true,false] rfl rfl (one_of HT_.out (by kernel_rfl)) (by decide) (fun K hK => ?_)
           refine Kd.R_append_rows_step k41 (w0:=w) w.heap.size (by rfl) (.tmp 66) (.tmp 69) 26 41 (.agg #[(.int .u64 0),(.int .u64 0)]) 16 rfl Try.underlying26 info41 rfl (by decide) (by omega) v144 y143 y146 _ _ _ (fun k_ => k_ ≠ gb123) (fun _ => False) rfl rfl ?aO ?aR (fun _ _ h => h) (fun _ h => h.elim) ?aF ?aB ?aS ?aL ?_
           (case aR => repeat (first | exact (Kd.C_below HR149.out HB.out) | (with_reducible refine Kd.C_alloc ?_ _) | (with_reducible refine Kd.C_drewN ?_ _) | (with_reducible refine Kd.C_drew ?_)))
           (case aB => exact (by repeat (first | (with_reducible first | exact HB.out | apply below_alloc | apply pw_below_drewN | apply below_drew1 | refine below_set ?_ GE123.out) | exact HB.out)))
           (case aF => exact (fun k_ hk => Kd.freshB (g:=gb123) (o:=.cells #[.int .u64 x124000_1,.int .u64 x124001_1] 41 (0,0)) (by (with_reducible repeat (first | refine blk_drewN ?_ _ | refine blk_drew ?_ | refine blk_alloc ?_ _));exact BK123.out) k_ hk))
           (case aO => exact (by (with_reducible repeat (first | apply Kd.R_alloc | apply Kd.R_drewN | apply Kd.R_drew));exact HO145.out))
           (case aS => exact (below_size (by repeat (first | (with_reducible first | exact HB.out | apply below_alloc | apply pw_below_drewN | apply below_drew1 | refine below_set ?_ GE123.out) | exact HB.out))))
           (case aL => have:=LMc20.out;omega)
           intro v151 w26 ho hb hg hat
           rw [← Ny150.out] at ho
           have n0_:=Aside0.mk (blk_grown (g:=gb123) (o:=.cells #[.int .u64 x124000_1,.int .u64 x124001_1] 41 (0,0)) (by (with_reducible repeat (first | refine blk_drewN ?_ _ | refine blk_drew ?_ | refine blk_alloc ?_ _));exact BK123.out) hg (Kd.R_away HO145.out (fun _ hk => hk)))
           have n1_:=Aside0.mk (hb)
           have n2_:=Aside0.mk (ho)
           clear BK123
           clear HB
           clear HO145
           have BK123:=n0_
           have HB:=n1_
           have HO152:=n2_
           clear n0_ n1_ n2_
           clear ho hb hg hat
           refine hK.out _ _ ⟨(blk_cell BK123.out 0).trans rfl,(blk_cell BK123.out 1).trans rfl⟩ (fun hHeld => ?_)
           clear hK K
           refine norm_ (a':=?_) ?_ ?_
           rotate_left
           ·show Act.put _ (some 70) _ = _
            simp only [Act.put,List.setIfInBounds_toArray,List.set_cons_zero,List.set_cons_succ,i64_w,i32_w]
            rfl
           refine pure_ (i:=8) (N:=some 4) (v:=?_) (a':=?_) #[true,true,true,true,true,true,true,true,true] rfl rfl (any_of HT_.out (by kernel_rfl)) (fun _ _ _ h => h) (Or.inl ⟨by rfl,?_⟩) ?_ ?_
           rotate_left
           ·intro w'
            go_simp
            with_reducible rfl
           rotate_left
           ·simp only [Act.put,List.setIfInBounds_toArray,List.set_cons_zero,List.set_cons_succ,i64_w,i32_w]
            rfl
           refine done_ (done_of HT_.out (by kernel_rfl)) ?_
           try go_wp2
           (try simp only [Exit.noGoto_ret,Exit.noGoto_normal])
           go_ret
           exact ⟨_,by first | rfl | (simp [errW_none,errW_some] <;> rfl) | (simp [*,errW_none,errW_some] <;> rfl),by (with_reducible repeat (first | apply Kd.R_alloc | apply Kd.R_drewN | apply Kd.R_drew));exact Kd.R_mono HO152.out (fun _ hk => trivial),by repeat (first | (with_reducible first | exact HB.out | apply below_alloc | apply pw_below_drewN | apply below_drew1 | refine below_set ?_ GE123.out) | exact HB.out)⟩
          ·rw [if_neg c20] at H
           exact absurd H (by simp)
         ·rw [if_neg c19] at H
          exact absurd H (by simp)
        ·rw [if_neg c17] at H
         exact absurd H (by simp)
       ·rw [if_neg c16] at H
        have c16b0 : decide (x124001_1 < ((rd_T41 l0 x6_1).f0)) = false:=decide_eq_false c16
        clear c16
        obtain ⟨ji27,hji27⟩ : ∃ j_ : Int,(mn x124000_1 ((rd_T41 l0 x6_1).f0)) = j_:=⟨_,rfl⟩
        replace H : (span_Add.l0 k1 l0 x5_1 (wrap64 (x6_1 + 1)) ji27 (mx x124001_1 ((rd_T41 l0 x6_1).f1))) = some r:=by first | (rw [hji27] at H;exact H) | (simp only [hji27] at H ⊢;exact H)
        have hji27_ : (if ((rd_T41 l0 x6_1).f0) < x124000_1 then ((rd_T41 l0 x6_1).f0) else x124000_1) = ji27:=hji27
        obtain ⟨ji28,hji28⟩ : ∃ j_ : Int,(mx x124001_1 ((rd_T41 l0 x6_1).f1)) = j_:=⟨_,rfl⟩
        replace H : (span_Add.l0 k1 l0 x5_1 (wrap64 (x6_1 + 1)) ji27 ji28) = some r:=by first | (rw [hji28] at H;exact H) | (simp only [hji28] at H ⊢;exact H)
        have hji28_ : (if x124001_1 < ((rd_T41 l0 x6_1).f1) then ((rd_T41 l0 x6_1).f1) else x124001_1) = ji28:=hji28
        have H':=Aside0.mk H
        clear H
        try go_wp2
        have n0_:=Aside0.mk (Kd.R_drew HO_5.out)
        have n1_:=Aside0.mk (blk_drew BK123.out)
        have n2_:=Aside0.mk (below_drew1 HB.out)
        clear HO_5
        clear BK123
        clear HB
        have HO_5:=n0_
        have BK123:=n1_
        have HB:=n2_
        clear n0_ n1_ n2_
        have p137 : 0 ≤ (x6_1 : Int):=of_decide_eq_true (by first | (with_reducible assumption) | assumption)
        have q137 : x6_1 < (l0.length : Int):=of_decide_eq_true (by first | (with_reducible assumption) | assumption)
        obtain ⟨ad137,e137,hx137_0,hx137_1⟩:=at_T41 HR0.out x6_1 p137 q137
        have hw137_1:=hx137_1
        have hw137_0:=hx137_0
        cases e137
        replace hx137_0:=(HB.out.cell (World.block_lt_of_cell? w _ hx137_0)).trans hx137_0
        replace hx137_1:=(HB.out.cell (World.block_lt_of_cell? w _ hx137_1)).trans hx137_1
        replace p137:=eq_true p137
        replace q137:=eq_true q137
        refine start_ (n:=9) (S:=fun w' => w'.cell? ⟨gb123,0,none⟩ = some (.int .u64 x124000_1) ∧ w'.cell? ⟨gb123,1,none⟩ = some (.int .u64 x124001_1) ∧ w'.cell? (ad137.add ((x6_1).toNat * 2)) = some (.int .u64 ((rd_T41 l0 x6_1).f0)) ∧ w'.cell? ⟨(ad137.add ((x6_1).toNat * 2)).block,(ad137.add ((x6_1).toNat * 2)).off + 1,none⟩ = some (.int .u64 ((rd_T41 l0 x6_1).f1))) (ds:=[]) #[false,false,false,false,false,false,false,false,false] (by kernel_rfl) rfl rfl ⟨(blk_cell BK123.out 0).trans rfl,(blk_cell BK123.out 1).trans rfl,((HB.out.cell (World.block_lt_of_cell? w _ hw137_0)).trans hw137_0),((HB.out.cell (World.block_lt_of_cell? w _ hw137_1)).trans hw137_1)⟩ (fun hHeld => ?_);refine with_tabW span_Add.tab7 span_Add.bits7 (fun HT_ HW_ => ?_)
        generalize wr.drew = w29 at HO_5 BK123 HB hx137_0 hx137_1 hHeld ⊢
        refine pure_ (i:=0) (N:=some 21) (v:=?_) (a':=?_) #[true,false,false,false,false,false,false,false,false] rfl rfl (any_of HT_.out (by kernel_rfl)) (fun _ _ _ h => h) (Or.inl ⟨by rfl,?_⟩) ?_ ?_
        rotate_left
        ·intro w'
         go_simp
         with_reducible rfl
        rotate_left
        ·simp only [Act.put,List.setIfInBounds_toArray,List.set_cons_zero,List.set_cons_succ,i64_w,i32_w]
         rfl
        refine pure_ (i:=1) (N:=some 22) (v:=?_) (a':=?_) #[true,true,false,false,false,false,false,false,false] rfl rfl (any_of HT_.out (by kernel_rfl)) (fun _ _ _ h => h) (Or.inl ⟨by rfl,?_⟩) ?_ ?_
        rotate_left
        ·intro w'
         go_simp
         with_reducible rfl
        rotate_left
        ·simp only [Act.put,List.setIfInBounds_toArray,List.set_cons_zero,List.set_cons_succ,i64_w,i32_w]
         rfl
        refine pure_ (i:=2) (N:=some 23) (v:=?_) (a':=?_) #[true,true,true,false,false,false,false,false,false] rfl rfl (any_of HT_.out (by kernel_rfl)) (fun _ _ _ h => h) (Or.inl ⟨by rfl,?_⟩) ?_ ?_
        rotate_left
        ·intro w'
         go_simp
         with_reducible rfl
        rotate_left
        ·simp only [Act.put,List.setIfInBounds_toArray,List.set_cons_zero,List.set_cons_succ,i64_w,i32_w]
         rfl
        refine pure_ (i:=3) (N:=some 24) (v:=?_) (a':=?_) #[true,true,true,true,false,false,false,false,false] rfl rfl (any_of HT_.out (by kernel_rfl)) (fun _ _ _ h => h) (Or.inl ⟨by rfl,?_⟩) ?_ ?_
        rotate_left
        ·intro w'
         go_simp
         with_reducible rfl
        rotate_left
        ·simp only [Act.put,List.setIfInBounds_toArray,List.set_cons_zero,List.set_cons_succ,i64_w,i32_w]
         rfl
        refine pure_ (i:=5) (N:=some 26) (v:=?_) (a':=?_) #[true,true,true,true,false,true,false,false,false] rfl rfl (any_of HT_.out (by kernel_rfl)) (fun _ _ _ h => h) (Or.inl ⟨by rfl,?_⟩) ?_ ?_
        rotate_left
        ·intro w'
         go_simp
         with_reducible rfl
        rotate_left
        ·simp only [Act.put,List.setIfInBounds_toArray,List.set_cons_zero,List.set_cons_succ,i64_w,i32_w]
         rfl
        refine take_ (i:=4) (N:=some 25) (v:=?_) (a':=?_) #[true,true,true,true,true,true,false,false,false] rfl rfl (take_ofW HT_.out HW_.out (by kernel_rfl)) (fun _ _ _ h => h) (Or.inl ⟨by rfl,?_⟩) hHeld ?_ ?_
        rotate_left
        ·rintro w' ⟨s0,s1,s2,s3⟩
         go_simp
         with_reducible rfl
        rotate_left
        ·simp only [Act.put,List.setIfInBounds_toArray,List.set_cons_zero,List.set_cons_succ,i64_w,i32_w]
         rfl
        refine take_ (i:=6) (N:=some 27) (v:=?_) (a':=?_) #[true,true,true,true,true,true,true,false,false] rfl rfl (take_ofW HT_.out HW_.out (by kernel_rfl)) (fun _ _ _ h => h) (Or.inl ⟨by rfl,?_⟩) hHeld ?_ ?_
        rotate_left
        ·rintro w' ⟨s0,s1,s2,s3⟩
         go_simp
         with_reducible rfl
        rotate_left
        ·simp only [Act.put,List.setIfInBounds_toArray,List.set_cons_zero,List.set_cons_succ,i64_w,i32_w]
         rfl
        refine pure_ (i:=7) (N:=some 28) (v:=?_) (a':=?_) #[true,true,true,true,true,true,true,true,false] rfl rfl (any_of HT_.out (by kernel_rfl)) (fun _ _ _ h => h) (Or.inl ⟨by rfl,?_⟩) ?_ ?_
        rotate_left
        ·intro w'
         go_simp
         with_reducible rfl
        rotate_left
        ·simp only [Act.put,List.setIfInBounds_toArray,List.set_cons_zero,List.set_cons_succ,i64_w,i32_w]
         rfl
        refine pure_ (i:=8) (N:=some 20) (v:=?_) (a':=?_) #[true,true,true,true,true,true,true,true,true] rfl rfl (any_of HT_.out (by kernel_rfl)) (fun _ _ _ h => h) (Or.inl ⟨by rfl,?_⟩) ?_ ?_
        rotate_left
        ·intro w'
         go_simp
         with_reducible rfl
        rotate_left
        ·simp only [Act.put,List.setIfInBounds_toArray,List.set_cons_zero,List.set_cons_succ,i64_w,i32_w]
         rfl
        refine done_ (done_of HT_.out (by kernel_rfl)) ?_
        try go_wp2
        have n0_:=Aside0.mk (Kd.R_drew HO_5.out)
        have n1_:=Aside0.mk (blk_drew BK123.out)
        have n2_:=Aside0.mk (below_drew1 HB.out)
        clear HO_5
        clear BK123
        clear HB
        have HO_5:=n0_
        have BK123:=n1_
        have HB:=n2_
        clear n0_ n1_ n2_
        have p142 : 0 ≤ (x6_1 : Int):=of_decide_eq_true (by first | (with_reducible assumption) | assumption)
        have q142 : x6_1 < (l0.length : Int):=of_decide_eq_true (by first | (with_reducible assumption) | assumption)
        obtain ⟨ad142,e142,hx142_0,hx142_1⟩:=at_T41 HR0.out x6_1 p142 q142
        have hw142_1:=hx142_1
        have hw142_0:=hx142_0
        obtain rfl : ad137 = ad142:=(by injection e142)
        replace hx142_0:=(HB.out.cell (World.block_lt_of_cell? w _ hx142_0)).trans hx142_0
        replace hx142_1:=(HB.out.cell (World.block_lt_of_cell? w _ hx142_1)).trans hx142_1
        replace p142:=eq_true p142
        replace q142:=eq_true q142
        refine start_ (n:=9) (S:=fun w' => w'.cell? ⟨gb123,0,none⟩ = some (.int .u64 x124000_1) ∧ w'.cell? ⟨gb123,1,none⟩ = some (.int .u64 x124001_1) ∧ w'.cell? (ad137.add ((x6_1).toNat * 2)) = some (.int .u64 ((rd_T41 l0 x6_1).f0)) ∧ w'.cell? ⟨(ad137.add ((x6_1).toNat * 2)).block,(ad137.add ((x6_1).toNat * 2)).off + 1,none⟩ = some (.int .u64 ((rd_T41 l0 x6_1).f1))) (ds:=[]) #[false,false,false,false,false,false,false,false,false] (by kernel_rfl) rfl rfl ⟨(blk_cell BK123.out 0).trans rfl,(blk_cell BK123.out 1).trans rfl,((HB.out.cell (World.block_lt_of_cell? w _ hw142_0)).trans hw142_0),((HB.out.cell (World.block_lt_of_cell? w _ hw142_1)).trans hw142_1)⟩ (fun hHeld => ?_);refine with_tabW span_Add.tab9 span_Add.bits9 (fun HT_ HW_ => ?_)
        generalize w29.drew = w30 at HO_5 BK123 HB hx142_0 hx142_1 hHeld ⊢
        refine pure_ (i:=0) (N:=some 37) (v:=?_) (a':=?_) #[true,false,false,false,false,false,false,false,false] rfl rfl (any_of HT_.out (by kernel_rfl)) (fun _ _ _ h => h) (Or.inl ⟨by rfl,?_⟩) ?_ ?_
        rotate_left
        ·intro w'
         go_simp
         with_reducible rfl
        rotate_left
        ·simp only [Act.put,List.setIfInBounds_toArray,List.set_cons_zero,List.set_cons_succ,i64_w,i32_w]
         rfl
        refine pure_ (i:=1) (N:=some 38) (v:=?_) (a':=?_) #[true,true,false,false,false,false,false,false,false] rfl rfl (any_of HT_.out (by kernel_rfl)) (fun _ _ _ h => h) (Or.inl ⟨by rfl,?_⟩) ?_ ?_
        rotate_left
        ·intro w'
         go_simp
         with_reducible rfl
        rotate_left
        ·simp only [Act.put,List.setIfInBounds_toArray,List.set_cons_zero,List.set_cons_succ,i64_w,i32_w]
         rfl
        refine pure_ (i:=2) (N:=some 39) (v:=?_) (a':=?_) #[true,true,true,false,false,false,false,false,false] rfl rfl (any_of HT_.out (by kernel_rfl)) (fun _ _ _ h => h) (Or.inl ⟨by rfl,?_⟩) ?_ ?_
        rotate_left
        ·intro w'
         go_simp
         with_reducible rfl
        rotate_left
        ·simp only [Act.put,List.setIfInBounds_toArray,List.set_cons_zero,List.set_cons_succ,i64_w,i32_w]
         rfl
        refine pure_ (i:=3) (N:=some 40) (v:=?_) (a':=?_) #[true,true,true,true,false,false,false,false,false] rfl rfl (any_of HT_.out (by kernel_rfl)) (fun _ _ _ h => h) (Or.inl ⟨by rfl,?_⟩) ?_ ?_
        rotate_left
        ·intro w'
         go_simp
         with_reducible rfl
        rotate_left
        ·simp only [Act.put,List.setIfInBounds_toArray,List.set_cons_zero,List.set_cons_succ,i64_w,i32_w]
         rfl
        refine pure_ (i:=5) (N:=some 42) (v:=?_) (a':=?_) #[true,true,true,true,false,true,false,false,false] rfl rfl (any_of HT_.out (by kernel_rfl)) (fun _ _ _ h => h) (Or.inl ⟨by rfl,?_⟩) ?_ ?_
        rotate_left
        ·intro w'
         go_simp
         with_reducible rfl
        rotate_left
        ·simp only [Act.put,List.setIfInBounds_toArray,List.set_cons_zero,List.set_cons_succ,i64_w,i32_w]
         rfl
        refine take_ (i:=4) (N:=some 41) (v:=?_) (a':=?_) #[true,true,true,true,true,true,false,false,false] rfl rfl (take_ofW HT_.out HW_.out (by kernel_rfl)) (fun _ _ _ h => h) (Or.inl ⟨by rfl,?_⟩) hHeld ?_ ?_
        rotate_left
        ·rintro w' ⟨s0,s1,s2,s3⟩
         go_simp
         with_reducible rfl
        rotate_left
        ·simp only [Act.put,List.setIfInBounds_toArray,List.set_cons_zero,List.set_cons_succ,i64_w,i32_w]
         rfl
        refine take_ (i:=6) (N:=some 43) (v:=?_) (a':=?_) #[true,true,true,true,true,true,true,false,false] rfl rfl (take_ofW HT_.out HW_.out (by kernel_rfl)) (fun _ _ _ h => h) (Or.inl ⟨by rfl,?_⟩) hHeld ?_ ?_
        rotate_left
        ·rintro w' ⟨s0,s1,s2,s3⟩
         go_simp
         with_reducible rfl
        rotate_left
        ·simp only [Act.put,List.setIfInBounds_toArray,List.set_cons_zero,List.set_cons_succ,i64_w,i32_w]
         rfl
        refine pure_ (i:=7) (N:=some 44) (v:=?_) (a':=?_) #[true,true,true,true,true,true,true,true,false] rfl rfl (any_of HT_.out (by kernel_rfl)) (fun _ _ _ h => h) (Or.inl ⟨by rfl,?_⟩) ?_ ?_
        rotate_left
        ·intro w'
         go_simp
         with_reducible rfl
        rotate_left
        ·simp only [Act.put,List.setIfInBounds_toArray,List.set_cons_zero,List.set_cons_succ,i64_w,i32_w]
         rfl
        refine pure_ (i:=8) (N:=some 36) (v:=?_) (a':=?_) #[true,true,true,true,true,true,true,true,true] rfl rfl (any_of HT_.out (by kernel_rfl)) (fun _ _ _ h => h) (Or.inl ⟨by rfl,?_⟩) ?_ ?_
        rotate_left
        ·intro w'
         go_simp
         with_reducible rfl
        rotate_left
        ·simp only [Act.put,List.setIfInBounds_toArray,List.set_cons_zero,List.set_cons_succ,i64_w,i32_w]
         rfl
        refine done_ (done_of HT_.out (by kernel_rfl)) ?_
        try go_wp2
        have n0_:=Aside0.mk (Kd.R_drew HO_5.out)
        have n1_:=Aside0.mk (blk_drew BK123.out)
        have n2_:=Aside0.mk (below_drew1 HB.out)
        clear HO_5
        clear BK123
        clear HB
        have HO_5:=n0_
        have BK123:=n1_
        have HB:=n2_
        clear n0_ n1_ n2_
        have p153 : 0 ≤ (x6_1 : Int):=of_decide_eq_true (by first | (with_reducible assumption) | assumption)
        have q153 : x6_1 < (l0.length : Int):=of_decide_eq_true (by first | (with_reducible assumption) | assumption)
        obtain ⟨ad153,e153,hx153_0,hx153_1⟩:=at_T41 HR0.out x6_1 p153 q153
        have hw153_1:=hx153_1
        have hw153_0:=hx153_0
        obtain rfl : ad137 = ad153:=(by injection e153)
        replace hx153_0:=(HB.out.cell (World.block_lt_of_cell? w _ hx153_0)).trans hx153_0
        replace hx153_1:=(HB.out.cell (World.block_lt_of_cell? w _ hx153_1)).trans hx153_1
        replace p153:=eq_true p153
        replace q153:=eq_true q153
        have p154 : 0 ≤ (x6_1 : Int):=of_decide_eq_true (by first | (with_reducible assumption) | assumption)
        have q154 : x6_1 < (l0.length : Int):=of_decide_eq_true (by first | (with_reducible assumption) | assumption)
        obtain ⟨ad154,e154,hx154_0,hx154_1⟩:=at_T41 HR0.out x6_1 p154 q154
        have hw154_1:=hx154_1
        have hw154_0:=hx154_0
        obtain rfl : ad137 = ad154:=(by injection e154)
        replace hx154_0:=(HB.out.cell (World.block_lt_of_cell? w _ hx154_0)).trans hx154_0
        replace hx154_1:=(HB.out.cell (World.block_lt_of_cell? w _ hx154_1)).trans hx154_1
        replace p154:=eq_true p154
        replace q154:=eq_true q154
        refine start_ (n:=20) (S:=fun w' => w'.cell? ⟨gb123,1,none⟩ = some (.int .u64 x124001_1) ∧ w'.cell? (ad137.add ((x6_1).toNat * 2)) = some (.int .u64 ((rd_T41 l0 x6_1).f0)) ∧ w'.cell? ⟨(ad137.add ((x6_1).toNat * 2)).block,(ad137.add ((x6_1).toNat * 2)).off + 1,none⟩ = some (.int .u64 ((rd_T41 l0 x6_1).f1)) ∧ w'.cell? (ad137.add ((x6_1).toNat * 2)) = some (.int .u64 ((rd_T41 l0 x6_1).f0)) ∧ w'.cell? ⟨(ad137.add ((x6_1).toNat * 2)).block,(ad137.add ((x6_1).toNat * 2)).off + 1,none⟩ = some (.int .u64 ((rd_T41 l0 x6_1).f1))) (ds:=[19]) #[false,false,false,false,false,false,false,false,false,false,false,false,false,false,false,false,false,false,false,false] (by kernel_rfl) rfl rfl ⟨(blk_cell BK123.out 1).trans rfl,((HB.out.cell (World.block_lt_of_cell? w _ hw153_0)).trans hw153_0),((HB.out.cell (World.block_lt_of_cell? w _ hw153_1)).trans hw153_1),((HB.out.cell (World.block_lt_of_cell? w _ hw154_0)).trans hw154_0),((HB.out.cell (World.block_lt_of_cell? w _ hw154_1)).trans hw154_1)⟩ (fun hHeld => ?_);refine with_tabW span_Add.tab10 span_Add.bits10 (fun HT_ HW_ => ?_)
        generalize w30.drew = w31 at HO_5 BK123 HB hx153_0 hx153_1 hx154_0 hx154_1 hHeld ⊢
        refine pure_ (i:=0) (N:=some 45) (v:=?_) (a':=?_) #[true,false,false,false,false,false,false,false,false,false,false,false,false,false,false,false,false,false,false,false] rfl rfl (any_of HT_.out (by kernel_rfl)) (fun _ _ _ h => h) (Or.inl ⟨by rfl,?_⟩) ?_ ?_
        rotate_left
        ·intro w'
         go_simp
         with_reducible rfl
        rotate_left
        ·simp only [Act.put,List.setIfInBounds_toArray,List.set_cons_zero,List.set_cons_succ,i64_w,i32_w]
         rfl
        refine pure_ (i:=2) (N:=some 47) (v:=?_) (a':=?_) #[true,false,true,false,false,false,false,false,false,false,false,false,false,false,false,false,false,false,false,false] rfl rfl (any_of HT_.out (by kernel_rfl)) (fun _ _ _ h => h) (Or.inl ⟨by rfl,?_⟩) ?_ ?_
        rotate_left
        ·intro w'
         go_simp
         with_reducible rfl
        rotate_left
        ·simp only [Act.put,List.setIfInBounds_toArray,List.set_cons_zero,List.set_cons_succ,i64_w,i32_w]
         rfl
        refine pure_ (i:=3) (N:=some 48) (v:=?_) (a':=?_) #[true,false,true,true,false,false,false,false,false,false,false,false,false,false,false,false,false,false,false,false] rfl rfl (any_of HT_.out (by kernel_rfl)) (fun _ _ _ h => h) (Or.inl ⟨by rfl,?_⟩) ?_ ?_
        rotate_left
        ·intro w'
         go_simp
         with_reducible rfl
        rotate_left
        ·simp only [Act.put,List.setIfInBounds_toArray,List.set_cons_zero,List.set_cons_succ,i64_w,i32_w]
         rfl
        refine pure_ (i:=4) (N:=some 49) (v:=?_) (a':=?_) #[true,false,true,true,true,false,false,false,false,false,false,false,false,false,false,false,false,false,false,false] rfl rfl (any_of HT_.out (by kernel_rfl)) (fun _ _ _ h => h) (Or.inl ⟨by rfl,?_⟩) ?_ ?_
        rotate_left
        ·intro w'
         go_simp
         with_reducible rfl
        rotate_left
        ·simp only [Act.put,List.setIfInBounds_toArray,List.set_cons_zero,List.set_cons_succ,i64_w,i32_w]
         rfl
        refine pure_ (i:=5) (N:=some 50) (v:=?_) (a':=?_) #[true,false,true,true,true,true,false,false,false,false,false,false,false,false,false,false,false,false,false,false] rfl rfl (any_of HT_.out (by kernel_rfl)) (fun _ _ _ h => h) (Or.inl ⟨by rfl,?_⟩) ?_ ?_
        rotate_left
        ·intro w'
         go_simp
         with_reducible rfl
        rotate_left
        ·simp only [Act.put,List.setIfInBounds_toArray,List.set_cons_zero,List.set_cons_succ,i64_w,i32_w]
         rfl
        refine pure_ (i:=8) (N:=some 53) (v:=?_) (a':=?_) #[true,false,true,true,true,true,false,false,true,false,false,false,false,false,false,false,false,false,false,false] rfl rfl (any_of HT_.out (by kernel_rfl)) (fun _ _ _ h => h) (Or.inl ⟨by rfl,?_⟩) ?_ ?_
        rotate_left
        ·intro w'
         go_simp
         with_reducible rfl
        rotate_left
        ·simp only [Act.put,List.setIfInBounds_toArray,List.set_cons_zero,List.set_cons_succ,i64_w,i32_w]
         rfl
        refine pure_ (i:=10) (N:=some 55) (v:=?_) (a':=?_) #[true,false,true,true,true,true,false,false,true,false,true,false,false,false,false,false,false,false,false,false] rfl rfl (any_of HT_.out (by kernel_rfl)) (fun _ _ _ h => h) (Or.inl ⟨by rfl,?_⟩) ?_ ?_
        rotate_left
        ·intro w'
         go_simp
         with_reducible rfl
        rotate_left
        ·simp only [Act.put,List.setIfInBounds_toArray,List.set_cons_zero,List.set_cons_succ,i64_w,i32_w]
         rfl
        refine pure_ (i:=11) (N:=some 56) (v:=?_) (a':=?_) #[true,false,true,true,true,true,false,false,true,false,true,true,false,false,false,false,false,false,false,false] rfl rfl (any_of HT_.out (by kernel_rfl)) (fun _ _ _ h => h) (Or.inl ⟨by rfl,?_⟩) ?_ ?_
        rotate_left
        ·intro w'
         go_simp
         with_reducible rfl
        rotate_left
        ·simp only [Act.put,List.setIfInBounds_toArray,List.set_cons_zero,List.set_cons_succ,i64_w,i32_w]
         rfl
        refine pure_ (i:=12) (N:=some 57) (v:=?_) (a':=?_) #[true,false,true,true,true,true,false,false,true,false,true,true,true,false,false,false,false,false,false,false] rfl rfl (any_of HT_.out (by kernel_rfl)) (fun _ _ _ h => h) (Or.inl ⟨by rfl,?_⟩) ?_ ?_
        rotate_left
        ·intro w'
         go_simp
         with_reducible rfl
        rotate_left
        ·simp only [Act.put,List.setIfInBounds_toArray,List.set_cons_zero,List.set_cons_succ,i64_w,i32_w]
         rfl
        refine pure_ (i:=13) (N:=some 58) (v:=?_) (a':=?_) #[true,false,true,true,true,true,false,false,true,false,true,true,true,true,false,false,false,false,false,false] rfl rfl (any_of HT_.out (by kernel_rfl)) (fun _ _ _ h => h) (Or.inl ⟨by rfl,?_⟩) ?_ ?_
        rotate_left
        ·intro w'
         go_simp
         with_reducible rfl
        rotate_left
        ·simp only [Act.put,List.setIfInBounds_toArray,List.set_cons_zero,List.set_cons_succ,i64_w,i32_w]
         rfl
        refine take_ (i:=6) (N:=some 51) (v:=?_) (a':=?_) #[true,false,true,true,true,true,true,false,true,false,true,true,true,true,false,false,false,false,false,false] rfl rfl (take_ofW HT_.out HW_.out (by kernel_rfl)) (fun _ _ _ h => h) (Or.inl ⟨by rfl,?_⟩) hHeld ?_ ?_
        rotate_left
        ·rintro w' ⟨s0,s1,s2,s3,s4⟩
         go_simp
         with_reducible rfl
        rotate_left
        ·simp only [Act.put,List.setIfInBounds_toArray,List.set_cons_zero,List.set_cons_succ,i64_w,i32_w]
         rfl
        refine take_ (i:=9) (N:=some 54) (v:=?_) (a':=?_) #[true,false,true,true,true,true,true,false,true,true,true,true,true,true,false,false,false,false,false,false] rfl rfl (take_ofW HT_.out HW_.out (by kernel_rfl)) (fun _ _ _ h => h) (Or.inl ⟨by rfl,?_⟩) hHeld ?_ ?_
        rotate_left
        ·rintro w' ⟨s0,s1,s2,s3,s4⟩
         go_simp
         with_reducible rfl
        rotate_left
        ·simp only [Act.put,List.setIfInBounds_toArray,List.set_cons_zero,List.set_cons_succ,i64_w,i32_w]
         rfl
        refine take_ (i:=14) (N:=some 59) (v:=?_) (a':=?_) #[true,false,true,true,true,true,true,false,true,true,true,true,true,true,true,false,false,false,false,false] rfl rfl (take_ofW HT_.out HW_.out (by kernel_rfl)) (fun _ _ _ h => h) (Or.inl ⟨by rfl,?_⟩) hHeld ?_ ?_
        rotate_left
        ·rintro w' ⟨s0,s1,s2,s3,s4⟩
         go_simp
         with_reducible rfl
        rotate_left
        ·simp only [Act.put,List.setIfInBounds_toArray,List.set_cons_zero,List.set_cons_succ,i64_w,i32_w]
         rfl
        refine pure_ (i:=15) (N:=some 60) (v:=?_) (a':=?_) #[true,false,true,true,true,true,true,false,true,true,true,true,true,true,true,true,false,false,false,false] rfl rfl (any_of HT_.out (by kernel_rfl)) (fun _ _ _ h => h) (Or.inl ⟨by rfl,?_⟩) ?_ ?_
        rotate_left
        ·intro w'
         go_simp
         with_reducible rfl
        rotate_left
        ·simp only [Act.put,List.setIfInBounds_toArray,List.set_cons_zero,List.set_cons_succ,i64_w,i32_w]
         rfl
        refine one_ (i:=1) (N:=some 46) #[true,true,true,true,true,true,true,false,true,true,true,true,true,true,true,true,false,false,false,false] rfl rfl (one_of HT_.out (by kernel_rfl)) (by decide) (fun K hK => ?_)
        refine value_ (w1:=?_) (v:=?_) (by rfl) rfl ?_ ?_
        rotate_left 2
        ·have hxv_ : w31.cell? ⟨gb123,0,none⟩ = some (.int .u64 x124000_1):=(blk_cell BK123.out 0).trans rfl
         go_simp
         constructor
         ·rfl
         ·rfl
        refine hK.out _ _ ⟨hHeld.1,hHeld.2.1,hHeld.2.2.1,hHeld.2.2.2.1,hHeld.2.2.2.2⟩ (fun hHeld => ?_)
        clear hK K
        refine norm_ (a':=?_) ?_ ?_
        rotate_left
        ·show Act.put _ (some 46) _ = _
         simp only [Act.put,List.setIfInBounds_toArray,List.set_cons_zero,List.set_cons_succ,i64_w,i32_w]
         rfl
        refine pure_ (i:=7) (N:=some 52) (v:=?_) (a':=?_) #[true,true,true,true,true,true,true,true,true,true,true,true,true,true,true,true,false,false,false,false] rfl rfl (any_of HT_.out (by kernel_rfl)) (fun _ _ _ h => h) (Or.inl ⟨by rfl,?_⟩) ?_ ?_
        rotate_left
        ·intro w'
         go_simp
         with_reducible rfl
        rotate_left
        ·simp only [Act.put,List.setIfInBounds_toArray,List.set_cons_zero,List.set_cons_succ,i64_w,i32_w]
         rfl
        refine pure_ (i:=16) (N:=some 61) (v:=?_) (a':=?_) #[true,true,true,true,true,true,true,true,true,true,true,true,true,true,true,true,true,false,false,false] rfl rfl (any_of HT_.out (by kernel_rfl)) (fun _ _ _ h => h) (Or.inl ⟨by rfl,?_⟩) ?_ ?_
        rotate_left
        ·intro w'
         go_simp
         with_reducible rfl
        rotate_left
        ·simp only [Act.put,List.setIfInBounds_toArray,List.set_cons_zero,List.set_cons_succ,i64_w,i32_w]
         rfl
        refine one_ (i:=17) (N:=none) #[true,true,true,true,true,true,true,true,true,true,true,true,true,true,true,true,true,true,false,false] rfl rfl (one_of HT_.out (by kernel_rfl)) (by decide) (fun K hK => ?_)
        have hs32 : w31.cell? ⟨gb123,0,none⟩ = some (.int .u64 x124000_1):=(blk_cell BK123.out 0).trans rfl
        have hfs32:=blk_frozen BK123.out 0
        refine skip_ (w1:=?_) (by rfl) rfl ?_ ?_
        rotate_left
        ·go_simp
         rfl
        refine hK.out _ _ ⟨((World.cell?_setCell_other _ _ _ _ (by simp)).trans (hHeld.1)),((cell_far (p:=⟨gb123,_,none⟩) (by first | exact Nat.ne_of_lt (Nat.lt_of_lt_of_le (by have:=World.block_lt_of_cell? _ _ hw153_0;first | rwa [add_block] at this | exact this) GW123.out) | (rw [add_block];exact Nat.ne_of_lt (Nat.lt_of_lt_of_le (by have:=World.block_lt_of_cell? _ _ hw153_0;first | rwa [add_block] at this | exact this) GW123.out)) | (show (Addr.add _ _).block ≠ _;rw [add_block];exact Nat.ne_of_lt (Nat.lt_of_lt_of_le (by have:=World.block_lt_of_cell? _ _ hw153_0;first | rwa [add_block] at this | exact this) GW123.out)) | (dsimp only;exact Nat.ne_of_lt (Nat.lt_of_lt_of_le (by have:=World.block_lt_of_cell? _ _ hw153_0;first | rwa [add_block] at this | exact this) GW123.out))) _).trans (hHeld.2.1)),((cell_far (p:=⟨gb123,_,none⟩) (by first | exact Nat.ne_of_lt (Nat.lt_of_lt_of_le (by have:=World.block_lt_of_cell? _ _ hw153_1;first | rwa [add_block] at this | exact this) GW123.out) | (rw [add_block];exact Nat.ne_of_lt (Nat.lt_of_lt_of_le (by have:=World.block_lt_of_cell? _ _ hw153_1;first | rwa [add_block] at this | exact this) GW123.out)) | (show (Addr.add _ _).block ≠ _;rw [add_block];exact Nat.ne_of_lt (Nat.lt_of_lt_of_le (by have:=World.block_lt_of_cell? _ _ hw153_1;first | rwa [add_block] at this | exact this) GW123.out)) | (dsimp only;exact Nat.ne_of_lt (Nat.lt_of_lt_of_le (by have:=World.block_lt_of_cell? _ _ hw153_1;first | rwa [add_block] at this | exact this) GW123.out))) _).trans (hHeld.2.2.1)),((cell_far (p:=⟨gb123,_,none⟩) (by first | exact Nat.ne_of_lt (Nat.lt_of_lt_of_le (by have:=World.block_lt_of_cell? _ _ hw154_0;first | rwa [add_block] at this | exact this) GW123.out) | (rw [add_block];exact Nat.ne_of_lt (Nat.lt_of_lt_of_le (by have:=World.block_lt_of_cell? _ _ hw154_0;first | rwa [add_block] at this | exact this) GW123.out)) | (show (Addr.add _ _).block ≠ _;rw [add_block];exact Nat.ne_of_lt (Nat.lt_of_lt_of_le (by have:=World.block_lt_of_cell? _ _ hw154_0;first | rwa [add_block] at this | exact this) GW123.out)) | (dsimp only;exact Nat.ne_of_lt (Nat.lt_of_lt_of_le (by have:=World.block_lt_of_cell? _ _ hw154_0;first | rwa [add_block] at this | exact this) GW123.out))) _).trans (hHeld.2.2.2.1)),((cell_far (p:=⟨gb123,_,none⟩) (by first | exact Nat.ne_of_lt (Nat.lt_of_lt_of_le (by have:=World.block_lt_of_cell? _ _ hw154_1;first | rwa [add_block] at this | exact this) GW123.out) | (rw [add_block];exact Nat.ne_of_lt (Nat.lt_of_lt_of_le (by have:=World.block_lt_of_cell? _ _ hw154_1;first | rwa [add_block] at this | exact this) GW123.out)) | (show (Addr.add _ _).block ≠ _;rw [add_block];exact Nat.ne_of_lt (Nat.lt_of_lt_of_le (by have:=World.block_lt_of_cell? _ _ hw154_1;first | rwa [add_block] at this | exact this) GW123.out)) | (dsimp only;exact Nat.ne_of_lt (Nat.lt_of_lt_of_le (by have:=World.block_lt_of_cell? _ _ hw154_1;first | rwa [add_block] at this | exact this) GW123.out))) _).trans (hHeld.2.2.2.2))⟩ (fun hHeld => ?_)
        clear hK K
        refine pure_ (i:=18) (N:=some 62) (v:=?_) (a':=?_) #[true,true,true,true,true,true,true,true,true,true,true,true,true,true,true,true,true,true,true,false] rfl rfl (any_of HT_.out (by kernel_rfl)) (fun _ _ _ h => h) (Or.inl ⟨by rfl,?_⟩) ?_ ?_
        rotate_left
        ·intro w'
         go_simp
         with_reducible rfl
        rotate_left
        ·simp only [Act.put,List.setIfInBounds_toArray,List.set_cons_zero,List.set_cons_succ,i64_w,i32_w]
         rfl
        refine last_ (i:=19) (N:=none) #[true,true,true,true,true,true,true,true,true,true,true,true,true,true,true,true,true,true,true,true] rfl rfl (one_of HT_.out (by kernel_rfl)) (by decide) (fun K hK => ?_)
        have hs33 : w31.cell? ⟨gb123,1,none⟩ = some (.int .u64 x124001_1):=(blk_cell BK123.out 1).trans rfl
        have hfs33:=blk_frozen BK123.out 1
        refine skip_ (w1:=?_) (by rfl) rfl ?_ ?_
        rotate_left
        ·go_simp
         rfl
        refine hK.out _ _ ?_
        clear hK K
        refine done_ (done_of HT_.out (by kernel_rfl)) ?_
        try go_wp2
        go_roundg k1
        case measure => have:=HK1.out;omega
        case rel => exact ⟨(x5_1),(wrap64 (x6_1 + 1)),(ji27),(ji28),(by first | rfl | (simp;done) | (simp [*];done)),H',⟨by have:=HK1.out;omega⟩,⟨by (with_reducible repeat (first | apply Kd.R_alloc | apply Kd.R_drewN | apply Kd.R_drew));exact Kd.R_mono (Kd.R_far (p:=⟨gb123,1,none⟩) (Kd.R_far (p:=⟨gb123,0,none⟩) (Kd.R_mono HO_5.out (fun k_ hk => (⟨hk,hk⟩ : _ ∧ k_ ≠ gb123))) (fun _ hk => hk.2) (.int .u64 ji27)) (fun _ hk => hk.2) (.int .u64 ji28)) (fun _ hk => hk.1)⟩,⟨by (with_reducible repeat (first | refine blk_drewN ?_ _ | refine blk_drew ?_ | refine blk_alloc ?_ _));refine blk_put (cs:=#[.int .u64 ji27,.int .u64 x124001_1]) ?_ 1 _ rfl;(with_reducible repeat (first | refine blk_drewN ?_ _ | refine blk_drew ?_ | refine blk_alloc ?_ _));refine blk_put (cs:=#[.int .u64 x124000_1,.int .u64 x124001_1]) ?_ 0 _ rfl;(with_reducible repeat (first | refine blk_drewN ?_ _ | refine blk_drew ?_ | refine blk_alloc ?_ _));exact BK123.out⟩,⟨by repeat (first | (with_reducible first | exact HB.out | apply below_alloc | apply pw_below_drewN | apply below_drew1 | refine below_set ?_ GE123.out) | exact HB.out)⟩⟩
     ·rw [if_neg c11] at H
      exact absurd H (by simp)
    ·rw [if_neg c10] at H
     have c10b0 : decide (x6_1 < (l0.length : Int)) = false:=decide_eq_false c10
     clear c10
     by_cases c34 : x5_1.length < 8796093022208
     ·rw [if_pos c34] at H
      have LMc34:=Aside0.mk c34
      clear c34
      obtain ⟨y127,hy127⟩ : ∃ y_ : List (S41),y_ = (x5_1 ++ [(⟨x124000_1,x124001_1⟩ : S41)]):=⟨_,rfl⟩
      replace H : (if 0 ≤ x6_1 then (if x6_1 ≤ (l0.length : Int) then ((some (l0.drop (x6_1 : Int).toNat : List (S41))).bind fun y130 => (if y127.length + y130.length < 8796093022208 then (some (y127 ++ y130)) else (none))) else (none)) else (none)) = some r:=by first | (rw [hy127];with_reducible exact H) | (have H2_:=(Option.bind_some _ _).symm.trans H;rw [hy127];with_reducible exact H2_) | (have H2_:=(Option.bind_some _ _).symm.trans H;with_reducible exact H2_) | with_reducible exact H | (rw [hy127];exact H) | exact H
      have Ny127:=Aside0.mk hy127
      clear hy127
      by_cases c35 : 0 ≤ x6_1
      ·rw [if_pos c35] at H
       have c35b0:=eq_true c35
       have c35b1 : decide (0 ≤ x6_1) = true:=decide_eq_true c35
       clear c35
       by_cases c36 : x6_1 ≤ (l0.length : Int)
       ·rw [if_pos c36] at H
        have c36b0:=eq_true c36
        have c36b1 : decide (x6_1 ≤ (l0.length : Int)) = true:=decide_eq_true c36
        clear c36
        obtain ⟨y130,hy130⟩ : ∃ y_ : List (S41),y_ = (l0.drop (x6_1 : Int).toNat):=⟨_,rfl⟩
        replace H : (if y127.length + y130.length < 8796093022208 then (some (y127 ++ y130)) else (none)) = some r:=by first | (rw [hy130];with_reducible exact H) | (have H2_:=(Option.bind_some _ _).symm.trans H;rw [hy130];with_reducible exact H2_) | (have H2_:=(Option.bind_some _ _).symm.trans H;with_reducible exact H2_) | with_reducible exact H | (rw [hy130];exact H) | exact H
        have Ny130:=Aside0.mk hy130
        clear hy130
        by_cases c37 : y127.length + y130.length < 8796093022208
        ·rw [if_pos c37] at H
         have LMc37:=Aside0.mk c37
         clear c37
         obtain ⟨y134,hy134⟩ : ∃ y_ : List (S41),y_ = (y127 ++ y130):=⟨_,rfl⟩
         replace H : (some y134) = some r:=by first | (rw [hy134];with_reducible exact H) | (have H2_:=(Option.bind_some _ _).symm.trans H;rw [hy134];with_reducible exact H2_) | (have H2_:=(Option.bind_some _ _).symm.trans H;with_reducible exact H2_) | with_reducible exact H | (rw [hy134];exact H) | exact H
         have Ny134:=Aside0.mk hy134
         clear hy134
         obtain rfl:=Option.some.inj H
         try go_wp2
         have n0_:=Aside0.mk (Kd.R_drew HO_5.out)
         have n1_:=Aside0.mk (blk_drew BK123.out)
         have n2_:=Aside0.mk (below_drew1 HB.out)
         clear HO_5
         clear BK123
         clear HB
         have HO_5:=n0_
         have BK123:=n1_
         have HB:=n2_
         clear n0_ n1_ n2_
         have q39 : (x6_1 : Int) ≤ ((l0.length : Int) : Int):=of_decide_eq_true (by first | (with_reducible assumption) | assumption)
         obtain ⟨i039,hi039,_,hsz39,_⟩:=info_parts info41
         have hroom39 : l0.length ≤ c0:=HC0.out
         have hC39 : Kd.C k41 _ A0 l0.length l0:=HR0.out
         have q039 : (0 : Int) ≤ (x6_1 : Int):=of_decide_eq_true (by first | (with_reducible assumption) | assumption)
         have hcut39:=cut_from (P:=Try.prog) 26 41 .i64 Try.underlying26 hi039 2 hsz39 A0 l0.length c0 x6_1 q039 q39
         have hr39:=Kd.C_drop (m:=(x6_1 : Int).toNat) (c:=c0) hC39 (by omega) hroom39
         obtain ⟨A39,hA39⟩ : ∃ A1,A1 = (if c0 = (x6_1 : Int).toNat then A0 else (A0 : Option Addr).map (·.add ((x6_1 : Int).toNat * 2))):=⟨_,rfl⟩
         obtain ⟨c39,hc39⟩ : ∃ c1,c1 = c0 - (x6_1 : Int).toNat:=⟨_,rfl⟩
         have hy39 : y130.length = l0.length - (x6_1 : Int).toNat:=(by rw [Ny130.out,List.length_drop] <;> omega)
         rw [show (l0).drop (x6_1 : Int).toNat = y130 from Ny130.out.symm] at hr39
         replace hr39 : Kd.C k41 _ A39 y130.length y130:=(by rw [hA39];exact hr39)
         rw [← hy39,← hA39,← hc39] at hcut39
         have HR133:=Aside0.mk hr39
         have HC133:=Aside0.mk (show y130.length ≤ c39 from by rw [hy39,hc39];exact Nat.sub_le_sub_right hroom39 _)
         clear hr39 hC39 hroom39 hi039 hsz39 hc39
         have KY39:=Aside0.mk hy39
         have KA39:=Aside0.mk hA39
         clear hy39 hA39
         replace q39:=eq_true q39
         refine start_ (n:=9) (S:=fun w' => w'.cell? ⟨gb123,0,none⟩ = some (.int .u64 x124000_1) ∧ w'.cell? ⟨gb123,1,none⟩ = some (.int .u64 x124001_1)) (ds:=[]) #[false,false,false,false,false,false,false,false,false] (by kernel_rfl) rfl rfl ⟨(blk_cell BK123.out 0).trans rfl,(blk_cell BK123.out 1).trans rfl⟩ (fun hHeld => ?_);refine with_tabW span_Add.tab11 span_Add.bits11 (fun HT_ HW_ => ?_)
         generalize wr.drew = w38 at HO_5 BK123 HB HR133 hHeld ⊢
         refine pure_ (i:=0) (N:=some 63) (v:=?_) (a':=?_) #[true,false,false,false,false,false,false,false,false] rfl rfl (any_of HT_.out (by kernel_rfl)) (fun _ _ _ h => h) (Or.inl ⟨by rfl,?_⟩) ?_ ?_
         rotate_left
         ·intro w'
          go_simp
          with_reducible rfl
         rotate_left
         ·simp only [Act.put,List.setIfInBounds_toArray,List.set_cons_zero,List.set_cons_succ,i64_w,i32_w]
          rfl
         refine pure_ (i:=4) (N:=some 67) (v:=?_) (a':=?_) #[true,false,false,false,true,false,false,false,false] rfl rfl (any_of HT_.out (by kernel_rfl)) (fun _ _ _ h => h) (Or.inl ⟨by rfl,?_⟩) ?_ ?_
         rotate_left
         ·intro w'
          go_simp
          with_reducible rfl
         rotate_left
         ·simp only [Act.put,List.setIfInBounds_toArray,List.set_cons_zero,List.set_cons_succ,i64_w,i32_w]
          rfl
         refine pure_ (i:=5) (N:=some 68) (v:=?_) (a':=?_) #[true,false,false,false,true,true,false,false,false] rfl rfl (any_of HT_.out (by kernel_rfl)) (fun _ _ _ h => h) (Or.inl ⟨by rfl,?_⟩) ?_ ?_
         rotate_left
         ·intro w'
          go_simp
          with_reducible rfl
         rotate_left
         ·simp only [Act.put,List.setIfInBounds_toArray,List.set_cons_zero,List.set_cons_succ,i64_w,i32_w]
          rfl
         refine pure_ (i:=6) (N:=some 69) (v:=?_) (a':=?_) #[true,false,false,false,true,true,true,false,false] rfl rfl (any_of HT_.out (by kernel_rfl)) (fun _ _ _ h => h) (Or.inl ⟨by rfl,?_⟩) ?_ ?_
         rotate_left
         ·intro w'
          go_simp
          with_reducible rfl
         rotate_left
         ·simp only [Act.put,List.setIfInBounds_toArray,List.set_cons_zero,List.set_cons_succ,i64_w,i32_w]
          rfl
         refine take_ (i:=1) (N:=some 64) (v:=?_) (a':=?_) #[true,true,false,false,true,true,true,false,false] rfl rfl (take_ofW HT_.out HW_.out (by kernel_rfl)) (fun _ _ _ h => h) (Or.inl ⟨by rfl,?_⟩) hHeld ?_ ?_
         rotate_left
         ·rintro w' ⟨s0,s1⟩
          go_simp
          with_reducible rfl
         rotate_left
         ·simp only [Act.put,List.setIfInBounds_toArray,List.set_cons_zero,List.set_cons_succ,i64_w,i32_w]
          rfl
         refine one_ (i:=2) (N:=some 65) #[true,true,true,false,true,true,true,false,false] rfl rfl (one_of HT_.out (by kernel_rfl)) (by decide) (fun K hK => ?_)
         refine value_ (w1:=?_) (v:=?_) (by rfl) rfl ?_ ?_
         rotate_left 2
         ·go_simp
          constructor
          ·rfl
          ·rfl
         refine hK.out _ _ ⟨(blk_cell (blk_alloc BK123.out _) 0).trans rfl,(blk_cell (blk_alloc BK123.out _) 1).trans rfl⟩ (fun hHeld => ?_)
         clear hK K
         refine norm_ (a':=?_) ?_ ?_
         rotate_left
         ·show Act.put _ (some 65) _ = _
          simp only [Act.put,List.setIfInBounds_toArray,List.set_cons_zero,List.set_cons_succ,i64_w,i32_w]
          rfl
         refine one_ (i:=3) (N:=some 66) #[true,true,true,true,true,true,true,false,false] rfl rfl (one_of HT_.out (by kernel_rfl)) (by decide) (fun K hK => ?_)
         refine Kd.R_append_step k41 (w0:=w) w.heap.size (by rfl) (.tmp 63) (.tmp 65) 26 41 (.agg #[(.int .u64 0),(.int .u64 0)]) 16 rfl Try.underlying26 info41 rfl (by decide) (by omega) u5 x5_1 (⟨x124000_1,x124001_1⟩ : S41) [.int .u64 x124000_1,.int .u64 x124001_1] (fun k_ => k_ ≠ gb123) (fun _ => False) rfl rfl ?aP (fun _ hk => hk.elim) ?aF ?aO ?aB ?aS ?aL ?_
         (case aP => exact k41_mkM _ _ _ (⟨x124000_1,x124001_1⟩ : S41))
         (case aB => exact (by repeat (first | (with_reducible first | exact HB.out | apply below_alloc | apply pw_below_drewN | apply below_drew1 | refine below_set ?_ GE123.out) | exact HB.out)))
         (case aF => exact (fun k_ hk => Kd.freshB (g:=gb123) (o:=.cells #[.int .u64 x124000_1,.int .u64 x124001_1] 41 (0,0)) (by (with_reducible repeat (first | refine blk_drewN ?_ _ | refine blk_drew ?_ | refine blk_alloc ?_ _));exact BK123.out) k_ hk))
         (case aO => exact (by (with_reducible repeat (first | apply Kd.R_alloc | apply Kd.R_drewN | apply Kd.R_drew));exact HO_5.out))
         (case aS => exact (below_size (by repeat (first | (with_reducible first | exact HB.out | apply below_alloc | apply pw_below_drewN | apply below_drew1 | refine below_set ?_ GE123.out) | exact HB.out))))
         (case aL => have:=LMc34.out;omega)
         intro v128 w40 ho hb hg hat
         rw [← Ny127.out] at ho
         have n0_:=Aside0.mk (blk_grown (g:=gb123) (o:=.cells #[.int .u64 x124000_1,.int .u64 x124001_1] 41 (0,0)) (by (with_reducible repeat (first | refine blk_drewN ?_ _ | refine blk_drew ?_ | refine blk_alloc ?_ _));exact BK123.out) hg (Kd.R_away HO_5.out (fun _ hk => hk)))
         have n1_:=Aside0.mk (hb)
         have n2_:=Aside0.mk (ho)
         clear BK123
         clear HB
         clear HO_5
         have BK123:=n0_
         have HB:=n1_
         have HO129:=n2_
         clear n0_ n1_ n2_
         clear ho hb hg hat
         refine hK.out _ _ ⟨(blk_cell BK123.out 0).trans rfl,(blk_cell BK123.out 1).trans rfl⟩ (fun hHeld => ?_)
         clear hK K
         refine norm_ (a':=?_) ?_ ?_
         rotate_left
         ·show Act.put _ (some 66) _ = _
          simp only [Act.put,List.setIfInBounds_toArray,List.set_cons_zero,List.set_cons_succ,i64_w,i32_w]
          rfl
         refine one_ (i:=7) (N:=some 70) #[true,true,true,true,true,true,true,true,false] rfl rfl (one_of HT_.out (by kernel_rfl)) (by decide) (fun K hK => ?_)
         refine Kd.R_append_rows_step k41 (w0:=w) w.heap.size (by rfl) (.tmp 66) (.tmp 69) 26 41 (.agg #[(.int .u64 0),(.int .u64 0)]) 16 rfl Try.underlying26 info41 rfl (by decide) (by omega) v128 y127 y130 _ _ _ (fun k_ => k_ ≠ gb123) (fun _ => False) rfl rfl ?aO ?aR (fun _ _ h => h) (fun _ h => h.elim) ?aF ?aB ?aS ?aL ?_
         (case aR => repeat (first | exact (Kd.C_below HR133.out HB.out) | (with_reducible refine Kd.C_alloc ?_ _) | (with_reducible refine Kd.C_drewN ?_ _) | (with_reducible refine Kd.C_drew ?_)))
         (case aB => exact (by repeat (first | (with_reducible first | exact HB.out | apply below_alloc | apply pw_below_drewN | apply below_drew1 | refine below_set ?_ GE123.out) | exact HB.out)))
         (case aF => exact (fun k_ hk => Kd.freshB (g:=gb123) (o:=.cells #[.int .u64 x124000_1,.int .u64 x124001_1] 41 (0,0)) (by (with_reducible repeat (first | refine blk_drewN ?_ _ | refine blk_drew ?_ | refine blk_alloc ?_ _));exact BK123.out) k_ hk))
         (case aO => exact (by (with_reducible repeat (first | apply Kd.R_alloc | apply Kd.R_drewN | apply Kd.R_drew));exact HO129.out))
         (case aS => exact (below_size (by repeat (first | (with_reducible first | exact HB.out | apply below_alloc | apply pw_below_drewN | apply below_drew1 | refine below_set ?_ GE123.out) | exact HB.out))))
         (case aL => have:=LMc37.out;omega)
         intro v135 w41 ho hb hg hat
         rw [← Ny134.out] at ho
         have n0_:=Aside0.mk (blk_grown (g:=gb123) (o:=.cells #[.int .u64 x124000_1,.int .u64 x124001_1] 41 (0,0)) (by (with_reducible repeat (first | refine blk_drewN ?_ _ | refine blk_drew ?_ | refine blk_alloc ?_ _));exact BK123.out) hg (Kd.R_away HO129.out (fun _ hk => hk)))
         have n1_:=Aside0.mk (hb)
         have n2_:=Aside0.mk (ho)
         clear BK123
         clear HB
         clear HO129
         have BK123:=n0_
         have HB:=n1_
         have HO136:=n2_
         clear n0_ n1_ n2_
         clear ho hb hg hat
         refine hK.out _ _ ⟨(blk_cell BK123.out 0).trans rfl,(blk_cell BK123.out 1).trans rfl⟩ (fun hHeld => ?_)
         clear hK K
         refine norm_ (a':=?_) ?_ ?_
         rotate_left
         ·show Act.put _ (some 70) _ = _
          simp only [Act.put,List.setIfInBounds_toArray,List.set_cons_zero,List.set_cons_succ,i64_w,i32_w]
          rfl
         refine pure_ (i:=8) (N:=some 4) (v:=?_) (a':=?_) #[true,true,true,true,true,true,true,true,true] rfl rfl (any_of HT_.out (by kernel_rfl)) (fun _ _ _ h => h) (Or.inl ⟨by rfl,?_⟩) ?_ ?_
         rotate_left
         ·intro w'
          go_simp
          with_reducible rfl
         rotate_left
         ·simp only [Act.put,List.setIfInBounds_toArray,List.set_cons_zero,List.set_cons_succ,i64_w,i32_w]
          rfl
         refine done_ (done_of HT_.out (by kernel_rfl)) ?_
         try go_wp2
         (try simp only [Exit.noGoto_ret,Exit.noGoto_normal])
         go_ret
         exact ⟨_,by first | rfl | (simp [errW_none,errW_some] <;> rfl) | (simp [*,errW_none,errW_some] <;> rfl),by (with_reducible repeat (first | apply Kd.R_alloc | apply Kd.R_drewN | apply Kd.R_drew));exact Kd.R_mono HO136.out (fun _ hk => trivial),by repeat (first | (with_reducible first | exact HB.out | apply below_alloc | apply pw_below_drewN | apply below_drew1 | refine below_set ?_ GE123.out) | exact HB.out)⟩
        ·rw [if_neg c37] at H
         exact absurd H (by simp)
       ·rw [if_neg c36] at H
        exact absurd H (by simp)
      ·rw [if_neg c35] at H
       exact absurd H (by simp)
     ·rw [if_neg c34] at H
      exact absurd H (by simp)

end Go.Proofs.Ytndfddejdfnleaa.P
