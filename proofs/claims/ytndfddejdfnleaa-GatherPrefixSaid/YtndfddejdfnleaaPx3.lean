-- Printed for this claim by xprint.py of this session: contracts of this session's own stand in for what the print does not take
import Derived.Test.YtndfddejdfnleaaPx0
import Derived.Test.YtndfddejdfnleaaPx2
namespace Go.Proofs.Ytndfddejdfnleaa.P
open Go.RowKit Go.Proofs.YtndfddejdfnleaaW.PrintWords Go.Proofs.YtndfddejdfnleaaW.PrintLast Go.Proofs.YtndfddejdfnleaaW.PrintMore
attribute [local go_sem] max2_int min2_int max_two min_two max_three min_three max_four min_four   -- for this text's walks alone
set_option linter.unusedVariables false
set_option linter.unusedSimpArgs false

/-! ### gather_own: function 16 -/
def gather_own.f (a0_0 : Int) (l0_1 : List (S41)) (l0_2 : List Int) (a0_3 : Bool) (a0_4 : Int) : Option (Int × (List (S41)) × List Int × Bool × Int):=(bytes_Clone.f l0_2).bind fun t117 => ((api_Span.f l0_1).bind fun t120 => (some (a0_0,t120,t117,a0_3,a0_4)))
def gather_own.T1 : Bool × List (List Nat × List Nat):=(true,[([],[]),([0],[0]),([1],[1]),([],[]),([3],[3]),([4,2],[4]),([0,1,2,3,4],[]),([6,2,5,0,1,2,3,4],[2,6]),([0,1,2,3,4,5,6,7],[]),([8,5,7,0,1,2,3,4,5,6,7],[5,8])])
def gather_own.B1 : List Nat:=[0,1,3,0,8,31,31,127,255,511]
theorem gather_own.tab1 : rtab .any (opsOf Try.f16 1) = gather_own.T1:=by kernel_rfl
theorem gather_own.bits1 : waitsOk gather_own.T1.2 gather_own.B1 = true:=by kernel_rfl
set_option maxHeartbeats 8000000 in
set_option maxRecDepth 100000 in
theorem gather_own.calls (a0_0 : Int) (A0_1 : Option Addr) (c0_1 : Nat) (l0_1 : List (S41)) (A0_2 : Option Addr) (c0_2 : Nat) (l0_2 : List Int) (a0_3 : Bool) (a0_4 : Int) (r1 : Int) (r2 : List (S41)) (r3 : List Int) (r4 : Bool) (r5 : Int) (w : World) (hr0_1 : Kd.C k41 w A0_1 l0_1.length l0_1) (hc0_1 : l0_1.length ≤ c0_1) (hr0_2 : Kd.C (Kd.int .u8) w A0_2 l0_2.length l0_2) (hc0_2 : l0_2.length ≤ c0_2) (h : gather_own.f a0_0 l0_1 l0_2 a0_3 a0_4 = some (r1,r2,r3,r4,r5)) :
  Calls Try.prog 16 #[.agg #[.int .u64 a0_0,.slice A0_1 l0_1.length c0_1,.slice A0_2 l0_2.length c0_2,.bool a0_3,.int .u64 a0_4]] w fun e w' => ∃ v1_ v2_ : Value,e = .returned (.agg #[.int .u64 r1,v1_,v2_,.bool r4,.int .u64 r5]) ∧ Kd.R k41 41 w' w.heap.size (fun _ => True) v1_ r2 ∧ Kd.R (Kd.int .u8) 5 w' w.heap.size (fun _ => True) v2_ r3 ∧ Below w.heap.size w w':=by
 have hu28:=Try.underlying28
 have HR0_1:=Aside0.mk hr0_1
 have HC0_1:=Aside0.mk hc0_1
 clear hr0_1 hc0_1
 have HR0_2:=Aside0.mk hr0_2
 have HC0_2:=Aside0.mk hc0_2
 clear hr0_2 hc0_2
 have HB:=Aside0.mk (Below.refl w.heap.size w)
 have H : ((bytes_Clone.f l0_2).bind fun t117 => ((api_Span.f l0_1).bind fun t120 => (some (a0_0,t120,t117,a0_3,a0_4)))) = some (r1,r2,r3,r4,r5):=h
 clear h
 replace H:=Option.bind_eq_some_iff.mp H
 obtain ⟨t117,A20,H⟩:=H
 replace H : ((api_Span.f l0_1).bind fun t120 => (some (a0_0,t120,t117,a0_3,a0_4))) = some (r1,r2,r3,r4,r5):=H
 have A2:=Aside0.mk A20
 clear A20
 replace H:=Option.bind_eq_some_iff.mp H
 obtain ⟨t120,A30,H⟩:=H
 replace H : (some (a0_0,t120,t117,a0_3,a0_4)) = some (r1,r2,r3,r4,r5):=H
 have A3:=Aside0.mk A30
 clear A30
 simp only [Option.some.injEq,Prod.mk.injEq] at H
 obtain ⟨rfl,rfl,rfl,rfl,rfl⟩:=H
 go_enter Try.func16,Try.ntmps16
 try go_wp2_with (first | ((with_reducible refine gate_dst (N:=1) rfl ?_);refine box_event ?hg (N:=1) ?hd (cs:=#[.int .u64 a0_0,.slice A0_1 l0_1.length c0_1,.slice A0_2 l0_2.length c0_2,.bool a0_3,.int .u64 a0_4]) (t:=28) ?hr ?_;(case hd => rfl);(case hg => rfl);(case hr => first | (go_simp;done) | (go_simp;rfl));intro gb115 hg w4 hbox hb;have n0_:=Aside0.mk (below_step (by repeat (first | (with_reducible first | exact HB.out | apply below_alloc | apply pw_below_drewN | apply below_drew1) | exact HB.out)) hb);have n1_:=Aside0.mk (hbox);have n2_:=Aside0.mk ((by rw [hg];exact (below_size (by repeat (first | (with_reducible first | exact HB.out | apply below_alloc | apply pw_below_drewN | apply below_drew1) | exact HB.out))) : w.heap.size ≤ gb115));have n3_:=Aside0.mk ((by rw [hg];exact (below_size (by repeat (first | (with_reducible first | exact HB.out | apply below_alloc | apply pw_below_drewN | apply below_drew1) | exact HB.out))) : w.heap.size ≤ gb115));clear HB;have HB:=n0_;have BK115:=n1_;have GW115:=n2_;have GE115:=n3_;clear n0_ n1_ n2_ n3_;clear hb hbox hg) | ((with_reducible refine gate_dst (N:=2) rfl ?_);refine box_event ?hg (N:=2) ?hd (cs:=#[.int .u64 0,.slice none 0 0,.slice none 0 0,.bool false,.int .u64 0]) (t:=28) ?hr ?_;(case hd => rfl);(case hg => rfl);(case hr => first | (go_simp;done) | (go_simp;rfl));intro gb116 hg w5 hbox hb;have n0_:=Aside0.mk (blk_below (g:=gb115) (o:=.cells #[.int .u64 a0_0,.slice A0_1 l0_1.length c0_1,.slice A0_2 l0_2.length c0_2,.bool a0_3,.int .u64 a0_4] 28 (0,0)) (by (with_reducible repeat (first | refine blk_drewN ?_ _ | refine blk_drew ?_ | refine blk_alloc ?_ _));exact BK115.out) hb);have n1_:=Aside0.mk (below_step (by repeat (first | (with_reducible first | exact HB.out | apply below_alloc | apply pw_below_drewN | apply below_drew1 | refine below_set ?_ GE115.out) | exact HB.out)) hb);have n2_:=Aside0.mk (hbox);have n3_:=Aside0.mk ((by rw [hg];exact (below_size (by repeat (first | (with_reducible first | exact HB.out | apply below_alloc | apply pw_below_drewN | apply below_drew1 | refine below_set ?_ GE115.out) | exact HB.out))) : w.heap.size ≤ gb116));have n4_:=Aside0.mk ((by rw [hg];exact (below_size (by repeat (first | (with_reducible first | exact HB.out | apply below_alloc | apply pw_below_drewN | apply below_drew1 | refine below_set ?_ GE115.out) | exact HB.out))) : w.heap.size ≤ gb116));have n5_:=Aside0.mk ((by rw [hg];exact Nat.ne_of_lt (blk_lt (g:=gb115) (o:=.cells #[.int .u64 a0_0,.slice A0_1 l0_1.length c0_1,.slice A0_2 l0_2.length c0_2,.bool a0_3,.int .u64 a0_4] 28 (0,0)) (by (with_reducible repeat (first | refine blk_drewN ?_ _ | refine blk_drew ?_ | refine blk_alloc ?_ _));exact BK115.out)) : gb115 ≠ gb116));have n6_:=Aside0.mk ((by rw [hg];exact Nat.ne_of_gt (blk_lt (g:=gb115) (o:=.cells #[.int .u64 a0_0,.slice A0_1 l0_1.length c0_1,.slice A0_2 l0_2.length c0_2,.bool a0_3,.int .u64 a0_4] 28 (0,0)) (by (with_reducible repeat (first | refine blk_drewN ?_ _ | refine blk_drew ?_ | refine blk_alloc ?_ _));exact BK115.out)) : gb116 ≠ gb115));clear BK115;clear HB;have BK115:=n0_;have HB:=n1_;have BK116:=n2_;have GW116:=n3_;have GE116:=n4_;have NB115_116:=n5_;have NB116_115:=n6_;clear n0_ n1_ n2_ n3_ n4_ n5_ n6_;clear hb hbox hg))
 have n0_:=Aside0.mk (blk_drew BK115.out)
 have n1_:=Aside0.mk (blk_drew BK116.out)
 have n2_:=Aside0.mk (below_drew1 HB.out)
 clear BK115
 clear BK116
 clear HB
 have BK115:=n0_
 have BK116:=n1_
 have HB:=n2_
 clear n0_ n1_ n2_
 refine start_ (n:=10) (S:=fun w' => w'.cell? ⟨gb115,0,none⟩ = some (.int .u64 a0_0) ∧ w'.cell? ⟨gb115,1,none⟩ = some (.slice A0_1 l0_1.length c0_1) ∧ w'.cell? ⟨gb115,2,none⟩ = some (.slice A0_2 l0_2.length c0_2) ∧ w'.cell? ⟨gb115,3,none⟩ = some (.bool a0_3) ∧ w'.cell? ⟨gb115,4,none⟩ = some (.int .u64 a0_4)) (ds:=[7,9]) #[false,false,false,false,false,false,false,false,false,false] (by kernel_rfl) rfl rfl ⟨(blk_cell BK115.out 0).trans rfl,(blk_cell BK115.out 1).trans rfl,(blk_cell BK115.out 2).trans rfl,(blk_cell BK115.out 3).trans rfl,(blk_cell BK115.out 4).trans rfl⟩ (fun hHeld => ?_);refine with_tabW gather_own.tab1 gather_own.bits1 (fun HT_ HW_ => ?_)
 generalize w5.drew = w6 at BK115 BK116 HB hHeld ⊢
 refine pure_ (i:=0) (N:=some 3) (v:=?_) (a':=?_) #[true,false,false,false,false,false,false,false,false,false] rfl rfl (any_of HT_.out (by kernel_rfl)) (fun _ _ _ h => h) (Or.inl ⟨by rfl,?_⟩) ?_ ?_
 rotate_left
 ·intro w'
  go_simp
  with_reducible rfl
 rotate_left
 ·simp only [Act.put,List.setIfInBounds_toArray,List.set_cons_zero,List.set_cons_succ,i64_w,i32_w]
  rfl
 refine pure_ (i:=3) (N:=some 6) (v:=?_) (a':=?_) #[true,false,false,true,false,false,false,false,false,false] rfl rfl (any_of HT_.out (by kernel_rfl)) (fun _ _ _ h => h) (Or.inl ⟨by rfl,?_⟩) ?_ ?_
 rotate_left
 ·intro w'
  go_simp
  with_reducible rfl
 rotate_left
 ·simp only [Act.put,List.setIfInBounds_toArray,List.set_cons_zero,List.set_cons_succ,i64_w,i32_w]
  rfl
 refine take_ (i:=1) (N:=some 4) (v:=?_) (a':=?_) #[true,true,false,true,false,false,false,false,false,false] rfl rfl (take_ofW HT_.out HW_.out (by kernel_rfl)) (fun _ _ _ h => h) (Or.inl ⟨by rfl,?_⟩) hHeld ?_ ?_
 rotate_left
 ·rintro w' ⟨s0,s1,s2,s3,s4⟩
  go_simp
  with_reducible rfl
 rotate_left
 ·simp only [Act.put,List.setIfInBounds_toArray,List.set_cons_zero,List.set_cons_succ,i64_w,i32_w]
  rfl
 refine take_ (i:=4) (N:=some 7) (v:=?_) (a':=?_) #[true,true,false,true,true,false,false,false,false,false] rfl rfl (take_ofW HT_.out HW_.out (by kernel_rfl)) (fun _ _ _ h => h) (Or.inl ⟨by rfl,?_⟩) hHeld ?_ ?_
 rotate_left
 ·rintro w' ⟨s0,s1,s2,s3,s4⟩
  go_simp
  with_reducible rfl
 rotate_left
 ·simp only [Act.put,List.setIfInBounds_toArray,List.set_cons_zero,List.set_cons_succ,i64_w,i32_w]
  rfl
 refine one_ (i:=2) (N:=some 5) #[true,true,true,true,true,false,false,false,false,false] rfl rfl (one_of HT_.out (by kernel_rfl)) (by decide) (fun K hK => ?_)
 refine goes_ Try.func20 (by kernel_rfl) rfl #[.slice A0_2 l0_2.length c0_2] (by rfl) rfl rfl (by (try simp only [List.map_toArray,List.map_cons,List.map_nil]);first | done | rfl | (simp only [List.length_drop,List.length_take];rfl)) ?_
 with_reducible refine (bytes_Clone.calls _ _ l0_2 t117 _ ?side1 ?side2 A2.out).mono ?_
 (case side1 => repeat (first | exact (Kd.C_below HR0_2.out HB.out) | (with_reducible refine Kd.C_alloc ?_ _) | (with_reducible refine Kd.C_drewN ?_ _) | (with_reducible refine Kd.C_drew ?_)))
 (case side2 => exact HC0_2.out)
 rintro e w7 ⟨v118,rfl,ho0,hb⟩
 refine ⟨_,rfl,?_⟩
 have n0_:=Aside0.mk (Kd.R_lower ho0 (below_size (by repeat (first | (with_reducible first | exact HB.out | apply below_alloc | apply pw_below_drewN | apply below_drew1 | refine below_set ?_ GE115.out | refine below_set ?_ GE116.out) | exact HB.out))))
 have n1_:=Aside0.mk (blk_below (g:=gb115) (o:=.cells #[.int .u64 a0_0,.slice A0_1 l0_1.length c0_1,.slice A0_2 l0_2.length c0_2,.bool a0_3,.int .u64 a0_4] 28 (0,0)) (by (with_reducible repeat (first | refine blk_drewN ?_ _ | refine blk_drew ?_ | refine blk_alloc ?_ _));exact BK115.out) hb)
 have n2_:=Aside0.mk (blk_below (g:=gb116) (o:=.cells #[.int .u64 0,.slice none 0 0,.slice none 0 0,.bool false,.int .u64 0] 28 (0,0)) (by (with_reducible repeat (first | refine blk_drewN ?_ _ | refine blk_drew ?_ | refine blk_alloc ?_ _));exact BK116.out) hb)
 have n3_:=Aside0.mk (below_step (by repeat (first | (with_reducible first | exact HB.out | apply below_alloc | apply pw_below_drewN | apply below_drew1 | refine below_set ?_ GE115.out | refine below_set ?_ GE116.out) | exact HB.out)) hb)
 clear BK115
 clear BK116
 clear HB
 have HO119:=n0_
 have BK115:=n1_
 have BK116:=n2_
 have HB:=n3_
 clear n0_ n1_ n2_ n3_
 (try clear hb)
 (try clear hb2)
 (try clear hk)
 (try clear hi)
 (try clear ho0)
 refine hK.out _ _ ⟨(blk_cell BK115.out 0).trans rfl,(blk_cell BK115.out 1).trans rfl,(blk_cell BK115.out 2).trans rfl,(blk_cell BK115.out 3).trans rfl,(blk_cell BK115.out 4).trans rfl⟩ (fun hHeld => ?_)
 clear hK K
 refine norm_ (a':=?_) ?_ ?_
 rotate_left
 ·show Act.put _ (some 5) _ = _
  simp only [Act.put,List.setIfInBounds_toArray,List.set_cons_zero,List.set_cons_succ,i64_w,i32_w]
  rfl
 refine pure_ (i:=6) (N:=some 9) (v:=?_) (a':=?_) #[true,true,true,true,true,false,true,false,false,false] rfl rfl (any_of HT_.out (by kernel_rfl)) (fun _ _ _ h => h) (Or.inl ⟨by rfl,?_⟩) ?_ ?_
 rotate_left
 ·intro w'
  go_simp
  with_reducible rfl
 rotate_left
 ·simp only [Act.put,List.setIfInBounds_toArray,List.set_cons_zero,List.set_cons_succ,i64_w,i32_w]
  rfl
 refine one_ (i:=5) (N:=some 8) #[true,true,true,true,true,true,true,false,false,false] rfl rfl (one_of HT_.out (by kernel_rfl)) (by decide) (fun K hK => ?_)
 refine goes_ Try.func22 (by kernel_rfl) rfl #[.slice A0_1 l0_1.length c0_1] (by rfl) rfl rfl (by (try simp only [List.map_toArray,List.map_cons,List.map_nil]);first | done | rfl | (simp only [List.length_drop,List.length_take];rfl)) ?_
 with_reducible refine (api_Span.calls _ _ l0_1 t120 _ ?side1 ?side2 A3.out).mono ?_
 (case side1 => repeat (first | exact (Kd.C_below HR0_1.out HB.out) | (with_reducible refine Kd.C_alloc ?_ _) | (with_reducible refine Kd.C_drewN ?_ _) | (with_reducible refine Kd.C_drew ?_)))
 (case side2 => exact HC0_1.out)
 rintro e w8 ⟨v121,rfl,ho0,hb⟩
 refine ⟨_,rfl,?_⟩
 have n0_:=Aside0.mk (Kd.R_below (by (with_reducible repeat (first | apply Kd.R_alloc | apply Kd.R_drewN | apply Kd.R_drew));exact HO119.out) hb)
 have n1_:=Aside0.mk (Kd.R_lower ho0 (below_size (by repeat (first | (with_reducible first | exact HB.out | apply below_alloc | apply pw_below_drewN | apply below_drew1 | refine below_set ?_ GE115.out | refine below_set ?_ GE116.out) | exact HB.out))))
 have n2_:=Aside0.mk (blk_below (g:=gb115) (o:=.cells #[.int .u64 a0_0,.slice A0_1 l0_1.length c0_1,.slice A0_2 l0_2.length c0_2,.bool a0_3,.int .u64 a0_4] 28 (0,0)) (by (with_reducible repeat (first | refine blk_drewN ?_ _ | refine blk_drew ?_ | refine blk_alloc ?_ _));exact BK115.out) hb)
 have n3_:=Aside0.mk (blk_below (g:=gb116) (o:=.cells #[.int .u64 0,.slice none 0 0,.slice none 0 0,.bool false,.int .u64 0] 28 (0,0)) (by (with_reducible repeat (first | refine blk_drewN ?_ _ | refine blk_drew ?_ | refine blk_alloc ?_ _));exact BK116.out) hb)
 have n4_:=Aside0.mk (below_step (by repeat (first | (with_reducible first | exact HB.out | apply below_alloc | apply pw_below_drewN | apply below_drew1 | refine below_set ?_ GE115.out | refine below_set ?_ GE116.out) | exact HB.out)) hb)
 clear HO119
 clear BK115
 clear BK116
 clear HB
 have HO119:=n0_
 have HO122:=n1_
 have BK115:=n2_
 have BK116:=n3_
 have HB:=n4_
 clear n0_ n1_ n2_ n3_ n4_
 (try clear hb)
 (try clear hb2)
 (try clear hk)
 (try clear hi)
 (try clear ho0)
 obtain ⟨Ao9,co9,eo9⟩:=Kd.R_slice HO119.out
 (first | subst eo9 | (injection eo9 with f1_ f2_ f3_;have f4_:=f1_.symm;have f5_:=f3_.symm;clear f1_ f2_ f3_;subst f4_;subst f5_))
 obtain ⟨Ao11,co11,eo11⟩:=Kd.R_slice HO122.out
 (first | subst eo11 | (injection eo11 with f1_ f2_ f3_;have f4_:=f1_.symm;have f5_:=f3_.symm;clear f1_ f2_ f3_;subst f4_;subst f5_))
 refine hK.out _ _ ⟨(blk_cell BK115.out 0).trans rfl,(blk_cell BK115.out 1).trans rfl,(blk_cell BK115.out 2).trans rfl,(blk_cell BK115.out 3).trans rfl,(blk_cell BK115.out 4).trans rfl⟩ (fun hHeld => ?_)
 clear hK K
 refine norm_ (a':=?_) ?_ ?_
 rotate_left
 ·show Act.put _ (some 8) _ = _
  simp only [Act.put,List.setIfInBounds_toArray,List.set_cons_zero,List.set_cons_succ,i64_w,i32_w]
  rfl
 refine last_ (i:=7) (N:=none) #[true,true,true,true,true,true,true,true,false,false] rfl rfl (one_of HT_.out (by kernel_rfl)) (by decide) (fun K hK => ?_)
 have hs10 : w8.cell? ⟨gb115,2,none⟩ = some (.slice A0_2 l0_2.length c0_2):=(blk_cell BK115.out 2).trans rfl
 have hfs10:=blk_frozen BK115.out 2
 have hns10_1:=NB116_115.out
 have hms10_1:=NB115_116.out
 refine skip_ (w1:=?_) (by rfl) rfl ?_ ?_
 rotate_left
 ·go_simp
  rfl
 refine hK.out _ _ ?_
 clear hK K
 refine pure_ (i:=8) (N:=some 10) (v:=?_) (a':=?_) #[true,true,true,true,true,true,true,true,true,false] rfl rfl (any_of HT_.out (by kernel_rfl)) (fun _ _ _ h => h) (Or.inl ⟨by rfl,?_⟩) ?_ ?_
 rotate_left
 ·intro w'
  go_simp
  with_reducible rfl
 rotate_left
 ·simp only [Act.put,List.setIfInBounds_toArray,List.set_cons_zero,List.set_cons_succ,i64_w,i32_w]
  rfl
 refine last_ (i:=9) (N:=none) #[true,true,true,true,true,true,true,true,true,true] rfl rfl (one_of HT_.out (by kernel_rfl)) (by decide) (fun K hK => ?_)
 have hs12 : w8.cell? ⟨gb115,1,none⟩ = some (.slice A0_1 l0_1.length c0_1):=(blk_cell BK115.out 1).trans rfl
 have hfs12:=blk_frozen BK115.out 1
 have hns12_1:=NB116_115.out
 have hms12_1:=NB115_116.out
 refine skip_ (w1:=?_) (by rfl) rfl ?_ ?_
 rotate_left
 ·go_simp
  rfl
 refine hK.out _ _ ?_
 clear hK K
 refine done_ (done_of HT_.out (by kernel_rfl)) ?_
 have hnb13:=NB115_116.out
 have hnc13:=NB116_115.out
 have hcz14_0 : w8.cell? ⟨gb115,0,none⟩ = some (.int .u64 a0_0):=(blk_cell BK115.out 0).trans rfl
 have hcz14_1 : w8.cell? ⟨gb115,1,none⟩ = some (.slice A0_1 l0_1.length c0_1):=(blk_cell BK115.out 1).trans rfl
 have hcz14_2 : w8.cell? ⟨gb115,2,none⟩ = some (.slice A0_2 l0_2.length c0_2):=(blk_cell BK115.out 2).trans rfl
 have hcz14_3 : w8.cell? ⟨gb115,3,none⟩ = some (.bool a0_3):=(blk_cell BK115.out 3).trans rfl
 have hcz14_4 : w8.cell? ⟨gb115,4,none⟩ = some (.int .u64 a0_4):=(blk_cell BK115.out 4).trans rfl
 have hfz14_0:=blk_frozen BK115.out 0
 have hfz14_1:=blk_frozen BK115.out 1
 have hfz14_2:=blk_frozen BK115.out 2
 have hfz14_3:=blk_frozen BK115.out 3
 have hfz14_4:=blk_frozen BK115.out 4
 have hcz15_0 : w8.cell? ⟨gb116,0,none⟩ = some (.int .u64 0):=(blk_cell BK116.out 0).trans rfl
 have hcz15_1 : w8.cell? ⟨gb116,1,none⟩ = some (.slice none 0 0):=(blk_cell BK116.out 1).trans rfl
 have hcz15_2 : w8.cell? ⟨gb116,2,none⟩ = some (.slice none 0 0):=(blk_cell BK116.out 2).trans rfl
 have hcz15_3 : w8.cell? ⟨gb116,3,none⟩ = some (.bool false):=(blk_cell BK116.out 3).trans rfl
 have hcz15_4 : w8.cell? ⟨gb116,4,none⟩ = some (.int .u64 0):=(blk_cell BK116.out 4).trans rfl
 have hfz15_0:=blk_frozen BK116.out 0
 have hfz15_1:=blk_frozen BK116.out 1
 have hfz15_2:=blk_frozen BK116.out 2
 have hfz15_3:=blk_frozen BK116.out 3
 have hfz15_4:=blk_frozen BK116.out 4
 try go_wp2
 refine bodyPost_ret (results_cell_row rfl _ _ gb116 28 #[.int .u64 a0_0,.slice Ao11 t120.length co11,.slice Ao9 t117.length co9,.bool a0_3,.int .u64 a0_4] (0,0) _ rfl (by (with_reducible repeat (first | refine blk_drewN ?_ _ | refine blk_drew ?_ | refine blk_alloc ?_ _));refine blk_put (cs:=#[.int .u64 a0_0,.slice Ao11 t120.length co11,.slice Ao9 t117.length co9,.bool a0_3,.int .u64 0]) ?_ 4 _ rfl;(with_reducible repeat (first | refine blk_drewN ?_ _ | refine blk_drew ?_ | refine blk_alloc ?_ _));refine blk_put (cs:=#[.int .u64 a0_0,.slice Ao11 t120.length co11,.slice Ao9 t117.length co9,.bool false,.int .u64 0]) ?_ 3 _ rfl;(with_reducible repeat (first | refine blk_drewN ?_ _ | refine blk_drew ?_ | refine blk_alloc ?_ _));refine blk_put (cs:=#[.int .u64 a0_0,.slice Ao11 t120.length co11,.slice none 0 0,.bool false,.int .u64 0]) ?_ 2 _ rfl;(with_reducible repeat (first | refine blk_drewN ?_ _ | refine blk_drew ?_ | refine blk_alloc ?_ _));refine blk_put (cs:=#[.int .u64 a0_0,.slice none 0 0,.slice none 0 0,.bool false,.int .u64 0]) ?_ 1 _ rfl;(with_reducible repeat (first | refine blk_drewN ?_ _ | refine blk_drew ?_ | refine blk_alloc ?_ _));refine blk_put (cs:=#[.int .u64 0,.slice none 0 0,.slice none 0 0,.bool false,.int .u64 0]) ?_ 0 _ rfl;(with_reducible repeat (first | refine blk_drewN ?_ _ | refine blk_drew ?_ | refine blk_alloc ?_ _));refine blk_far ?_ NB116_115.out _;(with_reducible repeat (first | refine blk_drewN ?_ _ | refine blk_drew ?_ | refine blk_alloc ?_ _));refine blk_far ?_ NB116_115.out _;(with_reducible repeat (first | refine blk_drewN ?_ _ | refine blk_drew ?_ | refine blk_alloc ?_ _));exact BK116.out) Try.underlying28 rfl (by kernel_rfl)) rfl ?_
 exact ⟨_,_,by first | rfl | (simp [errW_none,errW_some] <;> rfl) | (simp [*,errW_none,errW_some] <;> rfl),by (with_reducible repeat (first | apply Kd.R_alloc | apply Kd.R_drewN | apply Kd.R_drew));exact Kd.R_mono (Kd.R_far (p:=⟨gb116,4,none⟩) (Kd.R_far (p:=⟨gb116,3,none⟩) (Kd.R_far (p:=⟨gb116,2,none⟩) (Kd.R_far (p:=⟨gb116,1,none⟩) (Kd.R_far (p:=⟨gb116,0,none⟩) (Kd.R_far (p:=⟨gb115,1,none⟩) (Kd.R_far (p:=⟨gb115,2,none⟩) (Kd.R_types (Kd.R_types HO122.out BK115.out (by decide)) BK116.out (by decide)) (fun _ hk => hk.1.2) (.slice Ao9 t117.length co9)) (fun _ hk => hk.1.2) (.slice Ao11 t120.length co11)) (fun _ hk => hk.2) (.int .u64 a0_0)) (fun _ hk => hk.2) (.slice Ao11 t120.length co11)) (fun _ hk => hk.2) (.slice Ao9 t117.length co9)) (fun _ hk => hk.2) (.bool a0_3)) (fun _ hk => hk.2) (.int .u64 a0_4)) (fun _ hk => trivial),by (with_reducible repeat (first | apply Kd.R_alloc | apply Kd.R_drewN | apply Kd.R_drew));exact Kd.R_mono (Kd.R_far (p:=⟨gb116,4,none⟩) (Kd.R_far (p:=⟨gb116,3,none⟩) (Kd.R_far (p:=⟨gb116,2,none⟩) (Kd.R_far (p:=⟨gb116,1,none⟩) (Kd.R_far (p:=⟨gb116,0,none⟩) (Kd.R_far (p:=⟨gb115,1,none⟩) (Kd.R_far (p:=⟨gb115,2,none⟩) (Kd.R_types (Kd.R_types HO119.out BK115.out (by decide)) BK116.out (by decide)) (fun _ hk => hk.1.2) (.slice Ao9 t117.length co9)) (fun _ hk => hk.1.2) (.slice Ao11 t120.length co11)) (fun _ hk => hk.2) (.int .u64 a0_0)) (fun _ hk => hk.2) (.slice Ao11 t120.length co11)) (fun _ hk => hk.2) (.slice Ao9 t117.length co9)) (fun _ hk => hk.2) (.bool a0_3)) (fun _ hk => hk.2) (.int .u64 a0_4)) (fun _ hk => trivial),by repeat (first | (with_reducible first | exact HB.out | apply below_alloc | apply pw_below_drewN | apply below_drew1 | refine below_set ?_ GE115.out | refine below_set ?_ GE116.out) | exact HB.out)⟩

end Go.Proofs.Ytndfddejdfnleaa.P
