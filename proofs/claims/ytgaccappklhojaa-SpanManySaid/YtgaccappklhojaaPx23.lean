-- Printed for this claim by xprint.py of this session: contracts of this session's own stand in for what the print does not take
import Derived.Test.YtgaccappklhojaaPx0
import Derived.Test.YtgaccappklhojaaPx20
import Derived.Test.YtgaccappklhojaaPx22
namespace Go.Proofs.Ytgaccappklhojaa.P
open Go.RowKit Go.Proofs.YtgaccappklhojaaW.PrintWords Go.Proofs.YtgaccappklhojaaW.PrintLast Go.Proofs.YtgaccappklhojaaW.PrintMore
attribute [local go_sem] max2_int min2_int max_two min_two max_three min_three max_four min_four   -- for this text's walks alone
set_option linter.unusedVariables false
set_option linter.unusedSimpArgs false

/-! ### wigwagref07_Cut: function 20 -/
def wigwagref07_Cut.l0 : Nat → List (S25) → List (S25) → Int → Int → Int → Option ((List (S25)))
 | 0,_,_,_,_,_ => none
 | k + 1,x0,x5,x6,x398000,x398001 => if x6 < (x0.length : Int) then (if 0 ≤ x6 then ((wigwagref07_meet.f ((rd_T25 x0 x6).f0) ((rd_T25 x0 x6).f1) 0 x398000).bind fun bt405 => ((wigwagref07_joined.f k x5 bt405.1 bt405.2).bind fun t407 => ((wigwagref07_meet.f ((rd_T25 x0 x6).f0) ((rd_T25 x0 x6).f1) x398001 18446744073709551615).bind fun bt411 => ((wigwagref07_joined.f k t407 bt411.1 bt411.2).bind fun t413 => (wigwagref07_Cut.l0 k x0 t413 (wrap64 (x6 + 1)) x398000 x398001))))) else (none)) else (some x5)
def wigwagref07_Cut.f (k : Nat) (l0 : List (S25)) (a1_0 : Int) (a1_1 : Int) : Option ((List (S25))):=if a1_0 ≥ a1_1 then ((some (([] : List (S25)) : List (S25))).bind fun y398 => (if y398.length + l0.length < 8796093022208 then (some (y398 ++ l0)) else (none))) else (wigwagref07_Cut.l0 k l0 ([] : List (S25)) 0 a1_0 a1_1)
theorem wigwagref07_Cut.mono_l : ∀ k,(∀ y0 y1 y2 y3 y4,LeO (wigwagref07_Cut.l0 k y0 y1 y2 y3 y4) (wigwagref07_Cut.l0 (k + 1) y0 y1 y2 y3 y4))
 | 0 => fun _ _ _ _ _ r h => by simp [wigwagref07_Cut.l0] at h
 | k + 1 => by
  have ih0:=wigwagref07_Cut.mono_l k
  ·intro y0 y1 y2 y3 y4
   unfold wigwagref07_Cut.l0
   repeat' first
   | (with_reducible exact ih0 _ _ _ _ _)
   | (with_reducible exact wigwagref07_joined.mono _ _ _ _)
   | (with_reducible exact LeO.refl _)
   | (with_reducible exact LeO.none _)
   | (with_reducible refine LeO.ite ?_ ?_)
   | (with_reducible refine LeO.bind ?_ (fun _ => ?_))
   | exact ih0 _ _ _ _ _
   | exact wigwagref07_joined.mono _ _ _ _
   | exact LeO.none _
   | refine LeO.ite ?_ ?_
   | refine LeO.bind ?_ (fun _ => ?_)
theorem wigwagref07_Cut.mono : ∀ a0 a1 a2 k,LeO (wigwagref07_Cut.f k a0 a1 a2) (wigwagref07_Cut.f (k + 1) a0 a1 a2):=by
 intro a0 a1 a2 k
 have ih0:=wigwagref07_Cut.mono_l k
 unfold wigwagref07_Cut.f
 repeat' first
   | (with_reducible exact ih0 _ _ _ _ _)
   | (with_reducible exact wigwagref07_joined.mono _ _ _ _)
   | (with_reducible exact LeO.refl _)
   | (with_reducible exact LeO.none _)
   | (with_reducible refine LeO.ite ?_ ?_)
   | (with_reducible refine LeO.bind ?_ (fun _ => ?_))
   | exact ih0 _ _ _ _ _
   | exact wigwagref07_joined.mono _ _ _ _
   | exact LeO.none _
   | refine LeO.ite ?_ ?_
   | refine LeO.bind ?_ (fun _ => ?_)
def wigwagref07_Cut.T7 : Bool × List (List Nat × List Nat):=(true,[([],[]),([],[]),([],[]),([1,2],[1,2]),([3],[3]),([],[]),([5],[5]),([6],[6]),([4,7],[4,7]),([0,8,8],[0,8]),([9,9,0,1,2,3,4,5,6,7,8,9],[0,9])])
def wigwagref07_Cut.B7 : List Nat:=[0,0,0,6,14,0,32,96,254,511,1023]
theorem wigwagref07_Cut.tab7 : rtab .any (opsOf Try.f20 7) = wigwagref07_Cut.T7:=by kernel_rfl
theorem wigwagref07_Cut.bits7 : waitsOk wigwagref07_Cut.T7.2 wigwagref07_Cut.B7 = true:=by kernel_rfl
def wigwagref07_Cut.T8 : Bool × List (List Nat × List Nat):=(true,[([],[]),([],[]),([],[]),([1,2],[1,2]),([3],[3]),([],[]),([5],[5]),([6],[6]),([4,7],[4,7]),([0,8,8],[0,8]),([9,9,0,1,2,3,4,5,6,7,8,9],[0,9])])
def wigwagref07_Cut.B8 : List Nat:=[0,0,0,6,14,0,32,96,254,511,1023]
theorem wigwagref07_Cut.tab8 : rtab .any (opsOf Try.f20 8) = wigwagref07_Cut.T8:=by kernel_rfl
theorem wigwagref07_Cut.bits8 : waitsOk wigwagref07_Cut.T8.2 wigwagref07_Cut.B8 = true:=by kernel_rfl
set_option maxHeartbeats 8000000 in
set_option maxRecDepth 100000 in
theorem wigwagref07_Cut.calls (k : Nat) (A0 : Option Addr) (c0 : Nat) (l0 : List (S25)) (a1_0 : Int) (a1_1 : Int) (r : List (S25)) (w : World) (hr0 : Kd.C k25 w A0 l0.length l0) (hc0 : l0.length ≤ c0) (h : wigwagref07_Cut.f k l0 a1_0 a1_1 = some r) :
  Calls Try.prog 20 #[.slice A0 l0.length c0,.agg #[.int .u64 a1_0,.int .u64 a1_1]] w fun e w' => ∃ v0_ : Value,e = .returned (v0_) ∧ Kd.R k25 25 w' w.heap.size (fun _ => True) v0_ r ∧ Below w.heap.size w w':=by
 have hu25:=Try.underlying25
 have HR0:=Aside0.mk hr0
 have HC0:=Aside0.mk hc0
 clear hr0 hc0
 have HB:=Aside0.mk (Below.refl w.heap.size w)
 have H : (if a1_0 ≥ a1_1 then ((some (([] : List (S25)) : List (S25))).bind fun y398 => (if y398.length + l0.length < 8796093022208 then (some (y398 ++ l0)) else (none))) else (wigwagref07_Cut.l0 k l0 ([] : List (S25)) 0 a1_0 a1_1)) = some r:=h
 clear h
 by_cases c3 : a1_0 ≥ a1_1
 ·rw [if_pos c3] at H
  have c3b0 : decide (a1_1 ≤ a1_0) = true:=decide_eq_true c3
  clear c3
  obtain ⟨y398,hy398⟩ : ∃ y_ : List (S25),y_ = (([] : List (S25))):=⟨_,rfl⟩
  replace H : (if y398.length + l0.length < 8796093022208 then (some (y398 ++ l0)) else (none)) = some r:=by first | (rw [hy398];with_reducible exact H) | (have H2_:=(Option.bind_some _ _).symm.trans H;rw [hy398];with_reducible exact H2_) | (have H2_:=(Option.bind_some _ _).symm.trans H;with_reducible exact H2_) | with_reducible exact H | (rw [hy398];exact H) | exact H
  have Ny398:=Aside0.mk hy398
  clear hy398
  by_cases c4 : y398.length + l0.length < 8796093022208
  ·rw [if_pos c4] at H
   have LMc4:=Aside0.mk c4
   clear c4
   obtain ⟨y401,hy401⟩ : ∃ y_ : List (S25),y_ = (y398 ++ l0):=⟨_,rfl⟩
   replace H : (some y401) = some r:=by first | (rw [hy401];with_reducible exact H) | (have H2_:=(Option.bind_some _ _).symm.trans H;rw [hy401];with_reducible exact H2_) | (have H2_:=(Option.bind_some _ _).symm.trans H;with_reducible exact H2_) | with_reducible exact H | (rw [hy401];exact H) | exact H
   have Ny401:=Aside0.mk hy401
   clear hy401
   obtain rfl:=Option.some.inj H
   go_enter Try.func20,Try.ntmps20
   go_wp2_with (first | ((with_reducible refine gate_dst (N:=3) rfl ?_);refine box_event ?hg (N:=3) ?hd (cs:=#[.int .u64 a1_0,.int .u64 a1_1]) (t:=25) ?hr ?_;(case hd => rfl);(case hg => rfl);(case hr => first | (go_simp;done) | (go_simp;rfl));intro gb397 hg w5 hbox hb;have n0_:=Aside0.mk (below_step (by repeat (first | (with_reducible first | exact HB.out | apply below_alloc | apply pw_below_drewN | apply below_drew1) | exact HB.out)) hb);have n1_:=Aside0.mk (hbox);have n2_:=Aside0.mk ((by rw [hg];exact (below_size (by repeat (first | (with_reducible first | exact HB.out | apply below_alloc | apply pw_below_drewN | apply below_drew1) | exact HB.out))) : w.heap.size ≤ gb397));have n3_:=Aside0.mk ((by rw [hg];exact (below_size (by repeat (first | (with_reducible first | exact HB.out | apply below_alloc | apply pw_below_drewN | apply below_drew1) | exact HB.out))) : w.heap.size ≤ gb397));clear HB;have HB:=n0_;have BK397:=n1_;have GW397:=n2_;have GE397:=n3_;clear n0_ n1_ n2_ n3_;clear hb hbox hg;have hcz6_0 : w5.cell? ⟨gb397,0,none⟩ = some (.int .u64 a1_0):=(blk_cell BK397.out 0).trans rfl;have hcz6_1 : w5.cell? ⟨gb397,1,none⟩ = some (.int .u64 a1_1):=(blk_cell BK397.out 1).trans rfl;have hfz6_0:=blk_frozen BK397.out 0;have hfz6_1:=blk_frozen BK397.out 1) | ((with_reducible refine gate_dst (N:=12) rfl ?_);refine Kd.R_lit k25 _ 25 ?hg (N:=12) ?hd (xs:=([] : List (S25))) (inner:=[]) (ok:=fun _ => True) (okp:=fun _ => True) ?hr ?hp (fun _ hk => hk) trivial (Below.refl _ _) (Nat.le_refl _) (by simp) ?_;(case hd => rfl);(case hg => rfl);(case hr => first | (go_simp;done) | (go_simp;rfl));(case hp => exact (Reps.none _ _));intro v399 w7 ho8 hb hg_ hnew_;clear hg_ hnew_;(first | rw [← Ny398.out] at ho8 | (simp only [Int.reduceToNat] at ho8;rw [← Ny398.out] at ho8));have n0_:=Aside0.mk (Kd.R_lower (Kd.R_newB ho8 (g:=gb397) (o:=.cells #[.int .u64 a1_0,.int .u64 a1_1] 25 (0,0)) (by (with_reducible repeat (first | refine blk_drewN ?_ _ | refine blk_drew ?_ | refine blk_alloc ?_ _));exact BK397.out)) (below_size (by repeat (first | (with_reducible first | exact HB.out | apply below_alloc | apply pw_below_drewN | apply below_drew1 | refine below_set ?_ GE397.out) | exact HB.out))));have n1_:=Aside0.mk (blk_below (g:=gb397) (o:=.cells #[.int .u64 a1_0,.int .u64 a1_1] 25 (0,0)) (by (with_reducible repeat (first | refine blk_drewN ?_ _ | refine blk_drew ?_ | refine blk_alloc ?_ _));exact BK397.out) hb);have n2_:=Aside0.mk (below_step (by repeat (first | (with_reducible first | exact HB.out | apply below_alloc | apply pw_below_drewN | apply below_drew1 | refine below_set ?_ GE397.out) | exact HB.out)) hb);clear BK397;clear HB;have HO400:=n0_;have BK397:=n1_;have HB:=n2_;clear n0_ n1_ n2_;clear hb ho8) | ((with_reducible refine gate_builtin (b:=.append) (xs:=#[.tmp 12,.tmp 13]) rfl ?_);at_builtin;refine Kd.R_append_rows k25 (w0:=w) w.heap.size rfl (.tmp 12) (.tmp 13) 22 25 (.agg #[(.int .u64 0),(.int .u64 0)]) 16 rfl Try.underlying22 info25 rfl (by decide) (by omega) v399 y398 l0 _ _ _ (fun k_ => k_ ≠ gb397) (fun _ => False) rfl rfl ?aO ?aR (fun _ _ h => h) (fun _ h => h.elim) ?aF ?aB ?aS ?aL ?_;(case aR => repeat (first | exact (Kd.C_below HR0.out HB.out) | (with_reducible refine Kd.C_alloc ?_ _) | (with_reducible refine Kd.C_drewN ?_ _) | (with_reducible refine Kd.C_drew ?_)));(case aB => exact (by repeat (first | (with_reducible first | exact HB.out | apply below_alloc | apply pw_below_drewN | apply below_drew1 | refine below_set ?_ GE397.out) | exact HB.out)));(case aF => exact (fun k_ hk => Kd.freshB (g:=gb397) (o:=.cells #[.int .u64 a1_0,.int .u64 a1_1] 25 (0,0)) (by (with_reducible repeat (first | refine blk_drewN ?_ _ | refine blk_drew ?_ | refine blk_alloc ?_ _));exact BK397.out) k_ hk));(case aO => exact (by (with_reducible repeat (first | apply Kd.R_alloc | apply Kd.R_drewN | apply Kd.R_drew));exact Kd.R_mono HO400.out (fun _ hk => hk.2)));(case aS => exact (below_size (by repeat (first | (with_reducible first | exact HB.out | apply below_alloc | apply pw_below_drewN | apply below_drew1 | refine below_set ?_ GE397.out) | exact HB.out))));(case aL => have:=LMc4.out;omega);intro v402 w9 ho hb hg hat;rw [← Ny401.out] at ho;have n0_:=Aside0.mk (blk_grown (g:=gb397) (o:=.cells #[.int .u64 a1_0,.int .u64 a1_1] 25 (0,0)) (by (with_reducible repeat (first | refine blk_drewN ?_ _ | refine blk_drew ?_ | refine blk_alloc ?_ _));exact BK397.out) hg (Kd.R_away HO400.out (fun _ hk => hk.2)));have n1_:=Aside0.mk (hb);have n2_:=Aside0.mk (ho);clear BK397;clear HB;clear HO400;have BK397:=n0_;have HB:=n1_;have HO403:=n2_;clear n0_ n1_ n2_;clear ho hb hg hat))
   go_ret
   exact ⟨_,by first | rfl | (simp [errW_none,errW_some] <;> rfl) | (simp [*,errW_none,errW_some] <;> rfl),by (with_reducible repeat (first | apply Kd.R_alloc | apply Kd.R_drewN | apply Kd.R_drew));exact Kd.R_mono HO403.out (fun _ hk => trivial),by repeat (first | (with_reducible first | exact HB.out | apply below_alloc | apply pw_below_drewN | apply below_drew1 | refine below_set ?_ GE397.out) | exact HB.out)⟩
  ·rw [if_neg c4] at H
   exact absurd H (by simp)
 ·rw [if_neg c3] at H
  have c3b0 : decide (a1_1 ≤ a1_0) = false:=decide_eq_false c3
  clear c3
  have H':=Aside0.mk H
  clear H
  go_enter Try.func20,Try.ntmps20
  go_wp2_with (first | ((with_reducible refine gate_dst (N:=3) rfl ?_);refine box_event ?hg (N:=3) ?hd (cs:=#[.int .u64 a1_0,.int .u64 a1_1]) (t:=25) ?hr ?_;(case hd => rfl);(case hg => rfl);(case hr => first | (go_simp;done) | (go_simp;rfl));intro gb397 hg w10 hbox hb;have n0_:=Aside0.mk (below_step (by repeat (first | (with_reducible first | exact HB.out | apply below_alloc | apply pw_below_drewN | apply below_drew1) | exact HB.out)) hb);have n1_:=Aside0.mk (hbox);have n2_:=Aside0.mk ((by rw [hg];exact (below_size (by repeat (first | (with_reducible first | exact HB.out | apply below_alloc | apply pw_below_drewN | apply below_drew1) | exact HB.out))) : w.heap.size ≤ gb397));have n3_:=Aside0.mk ((by rw [hg];exact (below_size (by repeat (first | (with_reducible first | exact HB.out | apply below_alloc | apply pw_below_drewN | apply below_drew1) | exact HB.out))) : w.heap.size ≤ gb397));clear HB;have HB:=n0_;have BK397:=n1_;have GW397:=n2_;have GE397:=n3_;clear n0_ n1_ n2_ n3_;clear hb hbox hg;have hcz11_0 : w10.cell? ⟨gb397,0,none⟩ = some (.int .u64 a1_0):=(blk_cell BK397.out 0).trans rfl;have hcz11_1 : w10.cell? ⟨gb397,1,none⟩ = some (.int .u64 a1_1):=(blk_cell BK397.out 1).trans rfl;have hfz11_0:=blk_frozen BK397.out 0;have hfz11_1:=blk_frozen BK397.out 1))
  go_loopg [5,6] k (fun kq v5 v6 w' => ∃ (x5_1 : List (S25)) (x6_1 : Int),v6 = .int .i64 x6_1 ∧ Aside0 (wigwagref07_Cut.l0 kq l0 x5_1 x6_1 a1_0 a1_1 = some r) ∧ Aside0 (kq ≤ k) ∧ Aside0 (Kd.R k25 25 w' w.heap.size (fun k_ => k_ ≠ gb397) v5 x5_1) ∧ Aside0 (w'.heap[gb397]? = some (.cells #[.int .u64 a1_0,.int .u64 a1_1] 25 (0,0))) ∧ Aside0 (Below w.heap.size w w'))
  case atStart => exact ⟨(([] : List (S25))),(0),(by first | rfl | (simp;done) | (simp [*];done)),H',⟨Nat.le_refl _⟩,⟨by first | exact Kd.R_nil _ _ _ _ _ | exact Kd.N_nil _ _ _ _ _ | exact Kd.V_nil _ _ _ _ _ | exact Kd.Q_nil _ _ _ _ _ | exact Kd.S_nil _ _ _ _ _⟩,⟨by (with_reducible repeat (first | refine blk_drewN ?_ _ | refine blk_drew ?_ | refine blk_alloc ?_ _));exact BK397.out⟩,⟨by repeat (first | (with_reducible first | exact HB.out | apply below_alloc | apply pw_below_drewN | apply below_drew1 | refine below_set ?_ GE397.out) | exact HB.out)⟩⟩
  case round =>
   clear H'
   try clear c2
   try clear p2
   try clear c3
   try clear c3b0
   try clear c4
   try clear hcz11_0
   try clear hcz11_1
   try clear hcz6_0
   try clear hcz6_1
   try clear hfz11_0
   try clear hfz11_1
   try clear hfz6_0
   try clear hfz6_1
   obtain ⟨x5_1,x6_1,rfl,HA,HK1,HO_5,BK397,HB⟩:=hrel
   cases gk with
   | zero => exact absurd HA.out (by simp [wigwagref07_Cut.l0])
   | succ k1 =>
    have H:=HA.out
    clear HA
    simp only [wigwagref07_Cut.l0] at H
    by_cases c12 : x6_1 < (l0.length : Int)
    ·rw [if_pos c12] at H
     have c12b0 : decide (x6_1 < (l0.length : Int)) = true:=decide_eq_true c12
     clear c12
     by_cases c13 : 0 ≤ x6_1
     ·rw [if_pos c13] at H
      have c13b0 : decide (0 ≤ x6_1) = true:=decide_eq_true c13
      clear c13
      replace H:=Option.bind_eq_some_iff.mp H
      obtain ⟨⟨t405,t406⟩,A140,H⟩:=H
      replace H : ((wigwagref07_joined.f k1 x5_1 t405 t406).bind fun t407 => ((wigwagref07_meet.f ((rd_T25 l0 x6_1).f0) ((rd_T25 l0 x6_1).f1) a1_1 18446744073709551615).bind fun bt411 => ((wigwagref07_joined.f k1 t407 bt411.1 bt411.2).bind fun t413 => (wigwagref07_Cut.l0 k1 l0 t413 (wrap64 (x6_1 + 1)) a1_0 a1_1)))) = some r:=H
      have A14:=Aside0.mk A140
      clear A140
      replace H:=Option.bind_eq_some_iff.mp H
      obtain ⟨t407,A150,H⟩:=H
      replace H : ((wigwagref07_meet.f ((rd_T25 l0 x6_1).f0) ((rd_T25 l0 x6_1).f1) a1_1 18446744073709551615).bind fun bt411 => ((wigwagref07_joined.f k1 t407 bt411.1 bt411.2).bind fun t413 => (wigwagref07_Cut.l0 k1 l0 t413 (wrap64 (x6_1 + 1)) a1_0 a1_1))) = some r:=H
      have A15:=Aside0.mk A150
      clear A150
      replace H:=Option.bind_eq_some_iff.mp H
      obtain ⟨⟨t411,t412⟩,A160,H⟩:=H
      replace H : ((wigwagref07_joined.f k1 t407 t411 t412).bind fun t413 => (wigwagref07_Cut.l0 k1 l0 t413 (wrap64 (x6_1 + 1)) a1_0 a1_1)) = some r:=H
      have A16:=Aside0.mk A160
      clear A160
      replace H:=Option.bind_eq_some_iff.mp H
      obtain ⟨t413,A170,H⟩:=H
      replace H : (wigwagref07_Cut.l0 k1 l0 t413 (wrap64 (x6_1 + 1)) a1_0 a1_1) = some r:=H
      have A17:=Aside0.mk A170
      clear A170
      have H':=Aside0.mk H
      clear H
      try go_wp2
      have n0_:=Aside0.mk (Kd.R_drew HO_5.out)
      have n1_:=Aside0.mk (blk_drew BK397.out)
      have n2_:=Aside0.mk (below_drew1 HB.out)
      clear HO_5
      clear BK397
      clear HB
      have HO_5:=n0_
      have BK397:=n1_
      have HB:=n2_
      clear n0_ n1_ n2_
      have p404 : 0 ≤ (x6_1 : Int):=of_decide_eq_true (by first | (with_reducible assumption) | assumption)
      have q404 : x6_1 < (l0.length : Int):=of_decide_eq_true (by first | (with_reducible assumption) | assumption)
      obtain ⟨ad404,e404,hx404_0,hx404_1⟩:=at_T25 HR0.out x6_1 p404 q404
      have hw404_1:=hx404_1
      have hw404_0:=hx404_0
      cases e404
      replace hx404_0:=(HB.out.cell (World.block_lt_of_cell? w _ hx404_0)).trans hx404_0
      replace hx404_1:=(HB.out.cell (World.block_lt_of_cell? w _ hx404_1)).trans hx404_1
      replace p404:=eq_true p404
      replace q404:=eq_true q404
      refine start_ (n:=11) (S:=fun w' => w'.cell? ⟨gb397,0,none⟩ = some (.int .u64 a1_0) ∧ w'.cell? ⟨gb397,1,none⟩ = some (.int .u64 a1_1) ∧ w'.cell? (ad404.add ((x6_1).toNat * 2)) = some (.int .u64 ((rd_T25 l0 x6_1).f0)) ∧ w'.cell? ⟨(ad404.add ((x6_1).toNat * 2)).block,(ad404.add ((x6_1).toNat * 2)).off + 1,none⟩ = some (.int .u64 ((rd_T25 l0 x6_1).f1))) (ds:=[]) #[false,false,false,false,false,false,false,false,false,false,false] (by kernel_rfl) rfl rfl ⟨(blk_cell BK397.out 0).trans rfl,(blk_cell BK397.out 1).trans rfl,((HB.out.cell (World.block_lt_of_cell? w _ hw404_0)).trans hw404_0),((HB.out.cell (World.block_lt_of_cell? w _ hw404_1)).trans hw404_1)⟩ (fun hHeld => ?_);refine with_tabW wigwagref07_Cut.tab7 wigwagref07_Cut.bits7 (fun HT_ HW_ => ?_)
      generalize wr.drew = w18 at HO_5 BK397 HB hx404_0 hx404_1 hHeld ⊢
      refine pure_ (i:=0) (N:=some 21) (v:=?_) (a':=?_) #[true,false,false,false,false,false,false,false,false,false,false] rfl rfl (any_of HT_.out (by kernel_rfl)) (fun _ _ _ h => h) (Or.inl ⟨by rfl,?_⟩) ?_ ?_
      rotate_left
      ·intro w'
       go_simp
       with_reducible rfl
      rotate_left
      ·simp only [Act.put,List.setIfInBounds_toArray,List.set_cons_zero,List.set_cons_succ,i64_w,i32_w]
       rfl
      refine pure_ (i:=1) (N:=some 22) (v:=?_) (a':=?_) #[true,true,false,false,false,false,false,false,false,false,false] rfl rfl (any_of HT_.out (by kernel_rfl)) (fun _ _ _ h => h) (Or.inl ⟨by rfl,?_⟩) ?_ ?_
      rotate_left
      ·intro w'
       go_simp
       with_reducible rfl
      rotate_left
      ·simp only [Act.put,List.setIfInBounds_toArray,List.set_cons_zero,List.set_cons_succ,i64_w,i32_w]
       rfl
      refine pure_ (i:=2) (N:=some 23) (v:=?_) (a':=?_) #[true,true,true,false,false,false,false,false,false,false,false] rfl rfl (any_of HT_.out (by kernel_rfl)) (fun _ _ _ h => h) (Or.inl ⟨by rfl,?_⟩) ?_ ?_
      rotate_left
      ·intro w'
       go_simp
       with_reducible rfl
      rotate_left
      ·simp only [Act.put,List.setIfInBounds_toArray,List.set_cons_zero,List.set_cons_succ,i64_w,i32_w]
       rfl
      refine pure_ (i:=3) (N:=some 24) (v:=?_) (a':=?_) #[true,true,true,true,false,false,false,false,false,false,false] rfl rfl (any_of HT_.out (by kernel_rfl)) (fun _ _ _ h => h) (Or.inl ⟨by rfl,?_⟩) ?_ ?_
      rotate_left
      ·intro w'
       go_simp
       with_reducible rfl
      rotate_left
      ·simp only [Act.put,List.setIfInBounds_toArray,List.set_cons_zero,List.set_cons_succ,i64_w,i32_w]
       rfl
      refine pure_ (i:=5) (N:=some 26) (v:=?_) (a':=?_) #[true,true,true,true,false,true,false,false,false,false,false] rfl rfl (any_of HT_.out (by kernel_rfl)) (fun _ _ _ h => h) (Or.inl ⟨by rfl,?_⟩) ?_ ?_
      rotate_left
      ·intro w'
       go_simp
       with_reducible rfl
      rotate_left
      ·simp only [Act.put,List.setIfInBounds_toArray,List.set_cons_zero,List.set_cons_succ,i64_w,i32_w]
       rfl
      refine take_ (i:=4) (N:=some 25) (v:=?_) (a':=?_) #[true,true,true,true,true,true,false,false,false,false,false] rfl rfl (take_ofW HT_.out HW_.out (by kernel_rfl)) (fun _ _ _ h => h) (Or.inl ⟨by rfl,?_⟩) hHeld ?_ ?_
      rotate_left
      ·rintro w' ⟨s0,s1,s2,s3⟩
       go_simp
       with_reducible rfl
      rotate_left
      ·simp only [Act.put,List.setIfInBounds_toArray,List.set_cons_zero,List.set_cons_succ,i64_w,i32_w]
       rfl
      refine take_ (i:=6) (N:=some 27) (v:=?_) (a':=?_) #[true,true,true,true,true,true,true,false,false,false,false] rfl rfl (take_ofW HT_.out HW_.out (by kernel_rfl)) (fun _ _ _ h => h) (Or.inl ⟨by rfl,?_⟩) hHeld ?_ ?_
      rotate_left
      ·rintro w' ⟨s0,s1,s2,s3⟩
       go_simp
       with_reducible rfl
      rotate_left
      ·simp only [Act.put,List.setIfInBounds_toArray,List.set_cons_zero,List.set_cons_succ,i64_w,i32_w]
       rfl
      refine pure_ (i:=7) (N:=some 28) (v:=?_) (a':=?_) #[true,true,true,true,true,true,true,true,false,false,false] rfl rfl (any_of HT_.out (by kernel_rfl)) (fun _ _ _ h => h) (Or.inl ⟨by rfl,?_⟩) ?_ ?_
      rotate_left
      ·intro w'
       go_simp
       with_reducible rfl
      rotate_left
      ·simp only [Act.put,List.setIfInBounds_toArray,List.set_cons_zero,List.set_cons_succ,i64_w,i32_w]
       rfl
      refine one_ (i:=8) (N:=some 29) #[true,true,true,true,true,true,true,true,true,false,false] rfl rfl (one_of HT_.out (by kernel_rfl)) (by decide) (fun K hK => ?_)
      refine goes_ Try.func32 (by kernel_rfl) rfl #[.agg #[.int .u64 ((rd_T25 l0 x6_1).f0),.int .u64 ((rd_T25 l0 x6_1).f1)],.agg #[.int .u64 0,.int .u64 a1_0]] (by rfl) rfl rfl (by (try simp only [List.map_toArray,List.map_cons,List.map_nil]);first | done | rfl | (simp only [List.length_drop,List.length_take];rfl)) ?_
      with_reducible refine (wigwagref07_meet.calls ((rd_T25 l0 x6_1).f0) ((rd_T25 l0 x6_1).f1) 0 a1_0 t405 t406 _ A14.out).mono ?_
      rintro e w19 ⟨rfl,hb⟩
      refine ⟨_,rfl,?_⟩
      have n0_:=Aside0.mk (Kd.R_below (by (with_reducible repeat (first | apply Kd.R_alloc | apply Kd.R_drewN | apply Kd.R_drew));exact HO_5.out) hb)
      have n1_:=Aside0.mk (blk_below (g:=gb397) (o:=.cells #[.int .u64 a1_0,.int .u64 a1_1] 25 (0,0)) (by (with_reducible repeat (first | refine blk_drewN ?_ _ | refine blk_drew ?_ | refine blk_alloc ?_ _));exact BK397.out) hb)
      have n2_:=Aside0.mk (below_step (by repeat (first | (with_reducible first | exact HB.out | apply below_alloc | apply pw_below_drewN | apply below_drew1 | refine below_set ?_ GE397.out) | exact HB.out)) hb)
      clear HO_5
      clear BK397
      clear HB
      have HO_5:=n0_
      have BK397:=n1_
      have HB:=n2_
      clear n0_ n1_ n2_
      (try clear hb)
      (try clear hb2)
      (try clear hk)
      (try clear hi)
      obtain ⟨Ao20,co20,eo20⟩:=Kd.R_slice HO_5.out
      (first | subst eo20 | (injection eo20 with f1_ f2_ f3_;have f4_:=f1_.symm;have f5_:=f3_.symm;clear f1_ f2_ f3_;subst f4_;subst f5_))
      refine hK.out _ _ ⟨(blk_cell BK397.out 0).trans rfl,(blk_cell BK397.out 1).trans rfl,((HB.out.cell (World.block_lt_of_cell? w _ hw404_0)).trans hw404_0),((HB.out.cell (World.block_lt_of_cell? w _ hw404_1)).trans hw404_1)⟩ (fun hHeld => ?_)
      clear hK K
      refine norm_ (a':=?_) ?_ ?_
      rotate_left
      ·show Act.put _ (some 29) _ = _
       simp only [Act.put,List.setIfInBounds_toArray,List.set_cons_zero,List.set_cons_succ,i64_w,i32_w]
       rfl
      refine one_ (i:=9) (N:=some 30) #[true,true,true,true,true,true,true,true,true,true,false] rfl rfl (one_of HT_.out (by kernel_rfl)) (by decide) (fun K hK => ?_)
      refine goes_ Try.func30 (by kernel_rfl) rfl #[.slice Ao20 x5_1.length co20,.agg #[.int .u64 t405,.int .u64 t406]] (by rfl) rfl rfl (by (try simp only [List.map_toArray,List.map_cons,List.map_nil]);first | done | rfl | (simp only [List.length_drop,List.length_take];rfl)) ?_
      with_reducible refine (wigwagref07_joined.calls k1 (fun k_ => some k_ = (.slice Ao20 x5_1.length co20 : Value).ownBlock) (.slice Ao20 x5_1.length co20) x5_1 t405 t406 t407 w _ ?side1 ?side2 A15.out).mono ?_
      (case side1 => repeat (first | (with_reducible first | exact HB.out | apply below_alloc | apply pw_below_drewN | apply below_drew1 | refine below_set ?_ GE397.out) | exact HB.out))
      (case side2 => exact Kd.R_tight rfl HO_5.out)
      rintro e w21 ⟨v408,rfl,ho0,hb,hkp⟩
      refine ⟨_,rfl,?_⟩
      have n0_:=Aside0.mk (blk_kept (by (with_reducible repeat (first | refine blk_drewN ?_ _ | refine blk_drew ?_ | refine blk_alloc ?_ _));exact BK397.out) hkp (fun hs_ => (fun e_ => (Kd.R_away HO_5.out (fun _ hk => hk)) e_) hs_))
      have n1_:=Aside0.mk (Kd.R_mono (ok':=fun k_ => k_ ≠ gb397) ho0 (fun k_ hk_ => Or.elim hk_ (fun hs_ => fun e_ => (Kd.R_away HO_5.out (fun _ hk => hk)) (by rw [← e_];exact hs_)) (fun hn_ => (Kd.freshB (g:=gb397) (o:=.cells #[.int .u64 a1_0,.int .u64 a1_1] 25 (0,0)) (by (with_reducible repeat (first | refine blk_drewN ?_ _ | refine blk_drew ?_ | refine blk_alloc ?_ _));exact BK397.out) k_ hn_))))
      have n2_:=Aside0.mk (hb)
      clear BK397
      clear HB
      clear HO_5
      have BK397:=n0_
      have HO409:=n1_
      have HB:=n2_
      clear n0_ n1_ n2_
      (try clear hb)
      (try clear hkp)
      (try clear ho0)
      refine hK.out _ _ ⟨(blk_cell BK397.out 0).trans rfl,(blk_cell BK397.out 1).trans rfl,((HB.out.cell (World.block_lt_of_cell? w _ hw404_0)).trans hw404_0),((HB.out.cell (World.block_lt_of_cell? w _ hw404_1)).trans hw404_1)⟩ (fun hHeld => ?_)
      clear hK K
      refine norm_ (a':=?_) ?_ ?_
      rotate_left
      ·show Act.put _ (some 30) _ = _
       simp only [Act.put,List.setIfInBounds_toArray,List.set_cons_zero,List.set_cons_succ,i64_w,i32_w]
       rfl
      refine pure_ (i:=10) (N:=some 5) (v:=?_) (a':=?_) #[true,true,true,true,true,true,true,true,true,true,true] rfl rfl (any_of HT_.out (by kernel_rfl)) (fun _ _ _ h => h) (Or.inl ⟨by rfl,?_⟩) ?_ ?_
      rotate_left
      ·intro w'
       go_simp
       with_reducible rfl
      rotate_left
      ·simp only [Act.put,List.setIfInBounds_toArray,List.set_cons_zero,List.set_cons_succ,i64_w,i32_w]
       rfl
      refine done_ (done_of HT_.out (by kernel_rfl)) ?_
      try go_wp2
      have n0_:=Aside0.mk (Kd.R_drew HO409.out)
      have n1_:=Aside0.mk (blk_drew BK397.out)
      have n2_:=Aside0.mk (below_drew1 HB.out)
      clear HO409
      clear BK397
      clear HB
      have HO409:=n0_
      have BK397:=n1_
      have HB:=n2_
      clear n0_ n1_ n2_
      have p410 : 0 ≤ (x6_1 : Int):=of_decide_eq_true (by first | (with_reducible assumption) | assumption)
      have q410 : x6_1 < (l0.length : Int):=of_decide_eq_true (by first | (with_reducible assumption) | assumption)
      obtain ⟨ad410,e410,hx410_0,hx410_1⟩:=at_T25 HR0.out x6_1 p410 q410
      have hw410_1:=hx410_1
      have hw410_0:=hx410_0
      obtain rfl : ad404 = ad410:=(by injection e410)
      replace hx410_0:=(HB.out.cell (World.block_lt_of_cell? w _ hx410_0)).trans hx410_0
      replace hx410_1:=(HB.out.cell (World.block_lt_of_cell? w _ hx410_1)).trans hx410_1
      replace p410:=eq_true p410
      replace q410:=eq_true q410
      refine start_ (n:=11) (S:=fun w' => w'.cell? ⟨gb397,0,none⟩ = some (.int .u64 a1_0) ∧ w'.cell? ⟨gb397,1,none⟩ = some (.int .u64 a1_1) ∧ w'.cell? (ad404.add ((x6_1).toNat * 2)) = some (.int .u64 ((rd_T25 l0 x6_1).f0)) ∧ w'.cell? ⟨(ad404.add ((x6_1).toNat * 2)).block,(ad404.add ((x6_1).toNat * 2)).off + 1,none⟩ = some (.int .u64 ((rd_T25 l0 x6_1).f1))) (ds:=[]) #[false,false,false,false,false,false,false,false,false,false,false] (by kernel_rfl) rfl rfl ⟨(blk_cell BK397.out 0).trans rfl,(blk_cell BK397.out 1).trans rfl,((HB.out.cell (World.block_lt_of_cell? w _ hw410_0)).trans hw410_0),((HB.out.cell (World.block_lt_of_cell? w _ hw410_1)).trans hw410_1)⟩ (fun hHeld => ?_);refine with_tabW wigwagref07_Cut.tab8 wigwagref07_Cut.bits8 (fun HT_ HW_ => ?_)
      generalize w21.drew = w22 at HO409 BK397 HB hx410_0 hx410_1 hHeld ⊢
      refine pure_ (i:=0) (N:=some 31) (v:=?_) (a':=?_) #[true,false,false,false,false,false,false,false,false,false,false] rfl rfl (any_of HT_.out (by kernel_rfl)) (fun _ _ _ h => h) (Or.inl ⟨by rfl,?_⟩) ?_ ?_
      rotate_left
      ·intro w'
       go_simp
       with_reducible rfl
      rotate_left
      ·simp only [Act.put,List.setIfInBounds_toArray,List.set_cons_zero,List.set_cons_succ,i64_w,i32_w]
       rfl
      refine pure_ (i:=1) (N:=some 32) (v:=?_) (a':=?_) #[true,true,false,false,false,false,false,false,false,false,false] rfl rfl (any_of HT_.out (by kernel_rfl)) (fun _ _ _ h => h) (Or.inl ⟨by rfl,?_⟩) ?_ ?_
      rotate_left
      ·intro w'
       go_simp
       with_reducible rfl
      rotate_left
      ·simp only [Act.put,List.setIfInBounds_toArray,List.set_cons_zero,List.set_cons_succ,i64_w,i32_w]
       rfl
      refine pure_ (i:=2) (N:=some 33) (v:=?_) (a':=?_) #[true,true,true,false,false,false,false,false,false,false,false] rfl rfl (any_of HT_.out (by kernel_rfl)) (fun _ _ _ h => h) (Or.inl ⟨by rfl,?_⟩) ?_ ?_
      rotate_left
      ·intro w'
       go_simp
       with_reducible rfl
      rotate_left
      ·simp only [Act.put,List.setIfInBounds_toArray,List.set_cons_zero,List.set_cons_succ,i64_w,i32_w]
       rfl
      refine pure_ (i:=3) (N:=some 34) (v:=?_) (a':=?_) #[true,true,true,true,false,false,false,false,false,false,false] rfl rfl (any_of HT_.out (by kernel_rfl)) (fun _ _ _ h => h) (Or.inl ⟨by rfl,?_⟩) ?_ ?_
      rotate_left
      ·intro w'
       go_simp
       with_reducible rfl
      rotate_left
      ·simp only [Act.put,List.setIfInBounds_toArray,List.set_cons_zero,List.set_cons_succ,i64_w,i32_w]
       rfl
      refine pure_ (i:=5) (N:=some 36) (v:=?_) (a':=?_) #[true,true,true,true,false,true,false,false,false,false,false] rfl rfl (any_of HT_.out (by kernel_rfl)) (fun _ _ _ h => h) (Or.inl ⟨by rfl,?_⟩) ?_ ?_
      rotate_left
      ·intro w'
       go_simp
       with_reducible rfl
      rotate_left
      ·simp only [Act.put,List.setIfInBounds_toArray,List.set_cons_zero,List.set_cons_succ,i64_w,i32_w]
       rfl
      refine take_ (i:=4) (N:=some 35) (v:=?_) (a':=?_) #[true,true,true,true,true,true,false,false,false,false,false] rfl rfl (take_ofW HT_.out HW_.out (by kernel_rfl)) (fun _ _ _ h => h) (Or.inl ⟨by rfl,?_⟩) hHeld ?_ ?_
      rotate_left
      ·rintro w' ⟨s0,s1,s2,s3⟩
       go_simp
       with_reducible rfl
      rotate_left
      ·simp only [Act.put,List.setIfInBounds_toArray,List.set_cons_zero,List.set_cons_succ,i64_w,i32_w]
       rfl
      refine take_ (i:=6) (N:=some 37) (v:=?_) (a':=?_) #[true,true,true,true,true,true,true,false,false,false,false] rfl rfl (take_ofW HT_.out HW_.out (by kernel_rfl)) (fun _ _ _ h => h) (Or.inl ⟨by rfl,?_⟩) hHeld ?_ ?_
      rotate_left
      ·rintro w' ⟨s0,s1,s2,s3⟩
       go_simp
       with_reducible rfl
      rotate_left
      ·simp only [Act.put,List.setIfInBounds_toArray,List.set_cons_zero,List.set_cons_succ,i64_w,i32_w]
       rfl
      refine pure_ (i:=7) (N:=some 38) (v:=?_) (a':=?_) #[true,true,true,true,true,true,true,true,false,false,false] rfl rfl (any_of HT_.out (by kernel_rfl)) (fun _ _ _ h => h) (Or.inl ⟨by rfl,?_⟩) ?_ ?_
      rotate_left
      ·intro w'
       go_simp
       with_reducible rfl
      rotate_left
      ·simp only [Act.put,List.setIfInBounds_toArray,List.set_cons_zero,List.set_cons_succ,i64_w,i32_w]
       rfl
      refine one_ (i:=8) (N:=some 39) #[true,true,true,true,true,true,true,true,true,false,false] rfl rfl (one_of HT_.out (by kernel_rfl)) (by decide) (fun K hK => ?_)
      refine goes_ Try.func32 (by kernel_rfl) rfl #[.agg #[.int .u64 ((rd_T25 l0 x6_1).f0),.int .u64 ((rd_T25 l0 x6_1).f1)],.agg #[.int .u64 a1_1,.int .u64 18446744073709551615]] (by rfl) rfl rfl (by (try simp only [List.map_toArray,List.map_cons,List.map_nil]);first | done | rfl | (simp only [List.length_drop,List.length_take];rfl)) ?_
      with_reducible refine (wigwagref07_meet.calls ((rd_T25 l0 x6_1).f0) ((rd_T25 l0 x6_1).f1) a1_1 18446744073709551615 t411 t412 _ A16.out).mono ?_
      rintro e w23 ⟨rfl,hb⟩
      refine ⟨_,rfl,?_⟩
      have n0_:=Aside0.mk (Kd.R_below (by (with_reducible repeat (first | apply Kd.R_alloc | apply Kd.R_drewN | apply Kd.R_drew));exact HO409.out) hb)
      have n1_:=Aside0.mk (blk_below (g:=gb397) (o:=.cells #[.int .u64 a1_0,.int .u64 a1_1] 25 (0,0)) (by (with_reducible repeat (first | refine blk_drewN ?_ _ | refine blk_drew ?_ | refine blk_alloc ?_ _));exact BK397.out) hb)
      have n2_:=Aside0.mk (below_step (by repeat (first | (with_reducible first | exact HB.out | apply below_alloc | apply pw_below_drewN | apply below_drew1 | refine below_set ?_ GE397.out) | exact HB.out)) hb)
      clear HO409
      clear BK397
      clear HB
      have HO409:=n0_
      have BK397:=n1_
      have HB:=n2_
      clear n0_ n1_ n2_
      (try clear hb)
      (try clear hb2)
      (try clear hk)
      (try clear hi)
      obtain ⟨Ao24,co24,eo24⟩:=Kd.R_slice HO409.out
      (first | subst eo24 | (injection eo24 with f1_ f2_ f3_;have f4_:=f1_.symm;have f5_:=f3_.symm;clear f1_ f2_ f3_;subst f4_;subst f5_))
      refine hK.out _ _ ⟨(blk_cell BK397.out 0).trans rfl,(blk_cell BK397.out 1).trans rfl,((HB.out.cell (World.block_lt_of_cell? w _ hw410_0)).trans hw410_0),((HB.out.cell (World.block_lt_of_cell? w _ hw410_1)).trans hw410_1)⟩ (fun hHeld => ?_)
      clear hK K
      refine norm_ (a':=?_) ?_ ?_
      rotate_left
      ·show Act.put _ (some 39) _ = _
       simp only [Act.put,List.setIfInBounds_toArray,List.set_cons_zero,List.set_cons_succ,i64_w,i32_w]
       rfl
      refine one_ (i:=9) (N:=some 40) #[true,true,true,true,true,true,true,true,true,true,false] rfl rfl (one_of HT_.out (by kernel_rfl)) (by decide) (fun K hK => ?_)
      refine goes_ Try.func30 (by kernel_rfl) rfl #[.slice Ao24 t407.length co24,.agg #[.int .u64 t411,.int .u64 t412]] (by rfl) rfl rfl (by (try simp only [List.map_toArray,List.map_cons,List.map_nil]);first | done | rfl | (simp only [List.length_drop,List.length_take];rfl)) ?_
      with_reducible refine (wigwagref07_joined.calls k1 (fun k_ => some k_ = (.slice Ao24 t407.length co24 : Value).ownBlock) (.slice Ao24 t407.length co24) t407 t411 t412 t413 w _ ?side1 ?side2 A17.out).mono ?_
      (case side1 => repeat (first | (with_reducible first | exact HB.out | apply below_alloc | apply pw_below_drewN | apply below_drew1 | refine below_set ?_ GE397.out) | exact HB.out))
      (case side2 => exact Kd.R_tight rfl HO409.out)
      rintro e w25 ⟨v414,rfl,ho0,hb,hkp⟩
      refine ⟨_,rfl,?_⟩
      have n0_:=Aside0.mk (blk_kept (by (with_reducible repeat (first | refine blk_drewN ?_ _ | refine blk_drew ?_ | refine blk_alloc ?_ _));exact BK397.out) hkp (fun hs_ => (fun e_ => (Kd.R_away HO409.out (fun _ hk => hk)) e_) hs_))
      have n1_:=Aside0.mk (Kd.R_mono (ok':=fun k_ => k_ ≠ gb397) ho0 (fun k_ hk_ => Or.elim hk_ (fun hs_ => fun e_ => (Kd.R_away HO409.out (fun _ hk => hk)) (by rw [← e_];exact hs_)) (fun hn_ => (Kd.freshB (g:=gb397) (o:=.cells #[.int .u64 a1_0,.int .u64 a1_1] 25 (0,0)) (by (with_reducible repeat (first | refine blk_drewN ?_ _ | refine blk_drew ?_ | refine blk_alloc ?_ _));exact BK397.out) k_ hn_))))
      have n2_:=Aside0.mk (hb)
      clear BK397
      clear HB
      clear HO409
      have BK397:=n0_
      have HO415:=n1_
      have HB:=n2_
      clear n0_ n1_ n2_
      (try clear hb)
      (try clear hkp)
      (try clear ho0)
      refine hK.out _ _ ⟨(blk_cell BK397.out 0).trans rfl,(blk_cell BK397.out 1).trans rfl,((HB.out.cell (World.block_lt_of_cell? w _ hw410_0)).trans hw410_0),((HB.out.cell (World.block_lt_of_cell? w _ hw410_1)).trans hw410_1)⟩ (fun hHeld => ?_)
      clear hK K
      refine norm_ (a':=?_) ?_ ?_
      rotate_left
      ·show Act.put _ (some 40) _ = _
       simp only [Act.put,List.setIfInBounds_toArray,List.set_cons_zero,List.set_cons_succ,i64_w,i32_w]
       rfl
      refine pure_ (i:=10) (N:=some 5) (v:=?_) (a':=?_) #[true,true,true,true,true,true,true,true,true,true,true] rfl rfl (any_of HT_.out (by kernel_rfl)) (fun _ _ _ h => h) (Or.inl ⟨by rfl,?_⟩) ?_ ?_
      rotate_left
      ·intro w'
       go_simp
       with_reducible rfl
      rotate_left
      ·simp only [Act.put,List.setIfInBounds_toArray,List.set_cons_zero,List.set_cons_succ,i64_w,i32_w]
       rfl
      refine done_ (done_of HT_.out (by kernel_rfl)) ?_
      try go_wp2
      go_roundg k1
      case measure => have:=HK1.out;omega
      case rel => exact ⟨(t413),(wrap64 (x6_1 + 1)),(by first | rfl | (simp;done) | (simp [*];done)),H',⟨by have:=HK1.out;omega⟩,⟨by (with_reducible repeat (first | apply Kd.R_alloc | apply Kd.R_drewN | apply Kd.R_drew));exact HO415.out⟩,⟨by (with_reducible repeat (first | refine blk_drewN ?_ _ | refine blk_drew ?_ | refine blk_alloc ?_ _));exact BK397.out⟩,⟨by repeat (first | (with_reducible first | exact HB.out | apply below_alloc | apply pw_below_drewN | apply below_drew1 | refine below_set ?_ GE397.out) | exact HB.out)⟩⟩
     ·rw [if_neg c13] at H
      exact absurd H (by simp)
    ·rw [if_neg c12] at H
     have c12b0 : decide (x6_1 < (l0.length : Int)) = false:=decide_eq_false c12
     clear c12
     obtain rfl:=Option.some.inj H
     go_wp2
     go_ret
     exact ⟨_,by first | rfl | (simp [errW_none,errW_some] <;> rfl) | (simp [*,errW_none,errW_some] <;> rfl),by (with_reducible repeat (first | apply Kd.R_alloc | apply Kd.R_drewN | apply Kd.R_drew));exact Kd.R_mono HO_5.out (fun _ hk => trivial),by repeat (first | (with_reducible first | exact HB.out | apply below_alloc | apply pw_below_drewN | apply below_drew1 | refine below_set ?_ GE397.out) | exact HB.out)⟩

end Go.Proofs.Ytgaccappklhojaa.P
