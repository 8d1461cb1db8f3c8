-- Printed for this claim by xprint.py of this session: contracts of this session's own stand in for what the print does not take
import Derived.Test.YtadhkamocbhbmaaPx0
import Derived.Test.YtadhkamocbhbmaaPx18
namespace Go.Proofs.Ytadhkamocbhbmaa.P
open Go.RowKit Go.Proofs.YtadhkamocbhbmaaW.PrintWords Go.Proofs.YtadhkamocbhbmaaW.PrintLast Go.Proofs.YtadhkamocbhbmaaW.PrintMore
attribute [local go_sem] max2_int min2_int max_two min_two max_three min_three max_four min_four   -- for this text's walks alone
set_option linter.unusedVariables false
set_option linter.unusedSimpArgs false

/-! ### wigwagref18_Same: function 13 -/
def wigwagref18_Same.f (k : Nat) (a0_0 : Int) (l0_1 : List Int) (l0_2 : List (S37)) (l0_3 : List (S37)) (a0_4 : Bool) (a0_5 : Bool) (a0_6 : Bool) (a1_0 : Int) (l1_1 : List Int) (l1_2 : List (S37)) (l1_3 : List (S37)) (a1_4 : Bool) (a1_5 : Bool) (a1_6 : Bool) : Option (Bool):=(wigwagref07_Same.f k l0_2 l1_2).bind fun t393 => ((wigwagref07_Same.f k l0_3 l1_3).bind fun t394 => (if t393 = true then (if t394 = true then (if a0_0 = a1_0 then (if (strOfNums l0_1).toList = (strOfNums l1_1).toList then (if (a0_4 == a1_4) = true then (if (a0_5 == a1_5) = true then (some (a0_6 == a1_6)) else (some false)) else (some false)) else (some false)) else (some false)) else (some false)) else (some false)))
theorem wigwagref18_Same.mono : ∀ a0 a1 a2 a3 a4 a5 a6 a7 a8 a9 a10 a11 a12 a13 k,LeO (wigwagref18_Same.f k a0 a1 a2 a3 a4 a5 a6 a7 a8 a9 a10 a11 a12 a13) (wigwagref18_Same.f (k + 1) a0 a1 a2 a3 a4 a5 a6 a7 a8 a9 a10 a11 a12 a13):=by
 intro a0 a1 a2 a3 a4 a5 a6 a7 a8 a9 a10 a11 a12 a13 k
 unfold wigwagref18_Same.f
 repeat' first
   | (with_reducible exact wigwagref07_Same.mono _ _ _)
   | (with_reducible exact LeO.refl _)
   | (with_reducible exact LeO.none _)
   | (with_reducible refine LeO.ite ?_ ?_)
   | (with_reducible refine LeO.bind ?_ (fun _ => ?_))
   | exact wigwagref07_Same.mono _ _ _
   | exact LeO.none _
   | refine LeO.ite ?_ ?_
   | refine LeO.bind ?_ (fun _ => ?_)
set_option maxHeartbeats 8000000 in
set_option maxRecDepth 100000 in
theorem wigwagref18_Same.calls (k : Nat) (a0_0 : Int) (A0_1 : Option Addr) (c0_1 : Nat) (l0_1 : List Int) (A0_2 : Option Addr) (c0_2 : Nat) (l0_2 : List (S37)) (A0_3 : Option Addr) (c0_3 : Nat) (l0_3 : List (S37)) (a0_4 : Bool) (a0_5 : Bool) (a0_6 : Bool) (a1_0 : Int) (A1_1 : Option Addr) (c1_1 : Nat) (l1_1 : List Int) (A1_2 : Option Addr) (c1_2 : Nat) (l1_2 : List (S37)) (A1_3 : Option Addr) (c1_3 : Nat) (l1_3 : List (S37)) (a1_4 : Bool) (a1_5 : Bool) (a1_6 : Bool) (r : Bool) (w : World) (hr0_1 : Kd.C (Kd.int .u8) w A0_1 l0_1.length l0_1) (hc0_1 : l0_1.length ≤ c0_1) (hr0_2 : Kd.C k37 w A0_2 l0_2.length l0_2) (hc0_2 : l0_2.length ≤ c0_2) (hr0_3 : Kd.C k37 w A0_3 l0_3.length l0_3) (hc0_3 : l0_3.length ≤ c0_3) (hr1_1 : Kd.C (Kd.int .u8) w A1_1 l1_1.length l1_1) (hc1_1 : l1_1.length ≤ c1_1) (hr1_2 : Kd.C k37 w A1_2 l1_2.length l1_2) (hc1_2 : l1_2.length ≤ c1_2) (hr1_3 : Kd.C k37 w A1_3 l1_3.length l1_3) (hc1_3 : l1_3.length ≤ c1_3) (h : wigwagref18_Same.f k a0_0 l0_1 l0_2 l0_3 a0_4 a0_5 a0_6 a1_0 l1_1 l1_2 l1_3 a1_4 a1_5 a1_6 = some r) :
  Calls Try.prog 13 #[.agg #[.int .u64 a0_0,.slice A0_1 l0_1.length c0_1,.slice A0_2 l0_2.length c0_2,.slice A0_3 l0_3.length c0_3,.bool a0_4,.bool a0_5,.bool a0_6],.agg #[.int .u64 a1_0,.slice A1_1 l1_1.length c1_1,.slice A1_2 l1_2.length c1_2,.slice A1_3 l1_3.length c1_3,.bool a1_4,.bool a1_5,.bool a1_6]] w fun e w' => e = .returned (.bool r) ∧ Below w.heap.size w w':=by
 have hu27:=Try.underlying27
 have HR0_1:=Aside0.mk hr0_1
 have HC0_1:=Aside0.mk hc0_1
 clear hr0_1 hc0_1
 have HR0_2:=Aside0.mk hr0_2
 have HC0_2:=Aside0.mk hc0_2
 clear hr0_2 hc0_2
 have HR0_3:=Aside0.mk hr0_3
 have HC0_3:=Aside0.mk hc0_3
 clear hr0_3 hc0_3
 have HR1_1:=Aside0.mk hr1_1
 have HC1_1:=Aside0.mk hc1_1
 clear hr1_1 hc1_1
 have HR1_2:=Aside0.mk hr1_2
 have HC1_2:=Aside0.mk hc1_2
 clear hr1_2 hc1_2
 have HR1_3:=Aside0.mk hr1_3
 have HC1_3:=Aside0.mk hc1_3
 clear hr1_3 hc1_3
 have HB:=Aside0.mk (Below.refl w.heap.size w)
 have H : ((wigwagref07_Same.f k l0_2 l1_2).bind fun t393 => ((wigwagref07_Same.f k l0_3 l1_3).bind fun t394 => (if t393 = true then (if t394 = true then (if a0_0 = a1_0 then (if (strOfNums l0_1).toList = (strOfNums l1_1).toList then (if (a0_4 == a1_4) = true then (if (a0_5 == a1_5) = true then (some (a0_6 == a1_6)) else (some false)) else (some false)) else (some false)) else (some false)) else (some false)) else (some false)))) = some r:=h
 clear h
 replace H:=Option.bind_eq_some_iff.mp H
 obtain ⟨t393,A30,H⟩:=H
 replace H : ((wigwagref07_Same.f k l0_3 l1_3).bind fun t394 => (if t393 = true then (if t394 = true then (if a0_0 = a1_0 then (if (strOfNums l0_1).toList = (strOfNums l1_1).toList then (if (a0_4 == a1_4) = true then (if (a0_5 == a1_5) = true then (some (a0_6 == a1_6)) else (some false)) else (some false)) else (some false)) else (some false)) else (some false)) else (some false))) = some r:=H
 have A3:=Aside0.mk A30
 clear A30
 replace H:=Option.bind_eq_some_iff.mp H
 obtain ⟨t394,A40,H⟩:=H
 replace H : (if t393 = true then (if t394 = true then (if a0_0 = a1_0 then (if (strOfNums l0_1).toList = (strOfNums l1_1).toList then (if (a0_4 == a1_4) = true then (if (a0_5 == a1_5) = true then (some (a0_6 == a1_6)) else (some false)) else (some false)) else (some false)) else (some false)) else (some false)) else (some false)) = some r:=H
 have A4:=Aside0.mk A40
 clear A40
 have HS5:=Aside0.mk H
 clear H
 go_enter Try.func13,Try.ntmps13
 go_upto_region 3 with (first | ((with_reducible refine gate_dst (N:=2) rfl ?_);refine box_event ?hg (N:=2) ?hd (cs:=#[.int .u64 a0_0,.slice A0_1 l0_1.length c0_1,.slice A0_2 l0_2.length c0_2,.slice A0_3 l0_3.length c0_3,.bool a0_4,.bool a0_5,.bool a0_6]) (t:=27) ?hr ?_;(case hd => rfl);(case hg => rfl);(case hr => first | (go_simp;done) | (go_simp;rfl));intro gb391 hg w6 hbox hb;have n0_:=Aside0.mk (below_step (by repeat (first | (with_reducible first | exact HB.out | apply below_alloc | apply pw_below_drewN | apply below_drew1) | exact HB.out)) hb);have n1_:=Aside0.mk (hbox);have n2_:=Aside0.mk ((by rw [hg];exact (below_size (by repeat (first | (with_reducible first | exact HB.out | apply below_alloc | apply pw_below_drewN | apply below_drew1) | exact HB.out))) : w.heap.size ≤ gb391));have n3_:=Aside0.mk ((by rw [hg];exact (below_size (by repeat (first | (with_reducible first | exact HB.out | apply below_alloc | apply pw_below_drewN | apply below_drew1) | exact HB.out))) : w.heap.size ≤ gb391));clear HB;have HB:=n0_;have BK391:=n1_;have GW391:=n2_;have GE391:=n3_;clear n0_ n1_ n2_ n3_;clear hb hbox hg) | ((with_reducible refine gate_dst (N:=3) rfl ?_);refine box_event ?hg (N:=3) ?hd (cs:=#[.int .u64 a1_0,.slice A1_1 l1_1.length c1_1,.slice A1_2 l1_2.length c1_2,.slice A1_3 l1_3.length c1_3,.bool a1_4,.bool a1_5,.bool a1_6]) (t:=27) ?hr ?_;(case hd => rfl);(case hg => rfl);(case hr => first | (go_simp;done) | (go_simp;rfl));intro gb392 hg w7 hbox hb;have n0_:=Aside0.mk (blk_below (g:=gb391) (o:=.cells #[.int .u64 a0_0,.slice A0_1 l0_1.length c0_1,.slice A0_2 l0_2.length c0_2,.slice A0_3 l0_3.length c0_3,.bool a0_4,.bool a0_5,.bool a0_6] 27 (0,0)) (by (with_reducible repeat (first | refine blk_drewN ?_ _ | refine blk_drew ?_ | refine blk_alloc ?_ _));exact BK391.out) hb);have n1_:=Aside0.mk (below_step (by repeat (first | (with_reducible first | exact HB.out | apply below_alloc | apply pw_below_drewN | apply below_drew1 | refine below_set ?_ GE391.out) | exact HB.out)) hb);have n2_:=Aside0.mk (hbox);have n3_:=Aside0.mk ((by rw [hg];exact (below_size (by repeat (first | (with_reducible first | exact HB.out | apply below_alloc | apply pw_below_drewN | apply below_drew1 | refine below_set ?_ GE391.out) | exact HB.out))) : w.heap.size ≤ gb392));have n4_:=Aside0.mk ((by rw [hg];exact (below_size (by repeat (first | (with_reducible first | exact HB.out | apply below_alloc | apply pw_below_drewN | apply below_drew1 | refine below_set ?_ GE391.out) | exact HB.out))) : w.heap.size ≤ gb392));have n5_:=Aside0.mk ((by rw [hg];exact Nat.ne_of_lt (blk_lt (g:=gb391) (o:=.cells #[.int .u64 a0_0,.slice A0_1 l0_1.length c0_1,.slice A0_2 l0_2.length c0_2,.slice A0_3 l0_3.length c0_3,.bool a0_4,.bool a0_5,.bool a0_6] 27 (0,0)) (by (with_reducible repeat (first | refine blk_drewN ?_ _ | refine blk_drew ?_ | refine blk_alloc ?_ _));exact BK391.out)) : gb391 ≠ gb392));have n6_:=Aside0.mk ((by rw [hg];exact Nat.ne_of_gt (blk_lt (g:=gb391) (o:=.cells #[.int .u64 a0_0,.slice A0_1 l0_1.length c0_1,.slice A0_2 l0_2.length c0_2,.slice A0_3 l0_3.length c0_3,.bool a0_4,.bool a0_5,.bool a0_6] 27 (0,0)) (by (with_reducible repeat (first | refine blk_drewN ?_ _ | refine blk_drew ?_ | refine blk_alloc ?_ _));exact BK391.out)) : gb392 ≠ gb391));clear BK391;clear HB;have BK391:=n0_;have HB:=n1_;have BK392:=n2_;have GW392:=n3_;have GE392:=n4_;have NB391_392:=n5_;have NB392_391:=n6_;clear n0_ n1_ n2_ n3_ n4_ n5_ n6_;clear hb hbox hg;have hnb8:=NB391_392.out;have hnc8:=NB392_391.out;have hcz9_0 : w7.cell? ⟨gb391,0,none⟩ = some (.int .u64 a0_0):=(blk_cell BK391.out 0).trans rfl;have hcz9_1 : w7.cell? ⟨gb391,1,none⟩ = some (.slice A0_1 l0_1.length c0_1):=(blk_cell BK391.out 1).trans rfl;have hcz9_2 : w7.cell? ⟨gb391,2,none⟩ = some (.slice A0_2 l0_2.length c0_2):=(blk_cell BK391.out 2).trans rfl;have hcz9_3 : w7.cell? ⟨gb391,3,none⟩ = some (.slice A0_3 l0_3.length c0_3):=(blk_cell BK391.out 3).trans rfl;have hcz9_4 : w7.cell? ⟨gb391,4,none⟩ = some (.bool a0_4):=(blk_cell BK391.out 4).trans rfl;have hcz9_5 : w7.cell? ⟨gb391,5,none⟩ = some (.bool a0_5):=(blk_cell BK391.out 5).trans rfl;have hcz9_6 : w7.cell? ⟨gb391,6,none⟩ = some (.bool a0_6):=(blk_cell BK391.out 6).trans rfl;have hfz9_0:=blk_frozen BK391.out 0;have hfz9_1:=blk_frozen BK391.out 1;have hfz9_2:=blk_frozen BK391.out 2;have hfz9_3:=blk_frozen BK391.out 3;have hfz9_4:=blk_frozen BK391.out 4;have hfz9_5:=blk_frozen BK391.out 5;have hfz9_6:=blk_frozen BK391.out 6;have hcz10_0 : w7.cell? ⟨gb392,0,none⟩ = some (.int .u64 a1_0):=(blk_cell BK392.out 0).trans rfl;have hcz10_1 : w7.cell? ⟨gb392,1,none⟩ = some (.slice A1_1 l1_1.length c1_1):=(blk_cell BK392.out 1).trans rfl;have hcz10_2 : w7.cell? ⟨gb392,2,none⟩ = some (.slice A1_2 l1_2.length c1_2):=(blk_cell BK392.out 2).trans rfl;have hcz10_3 : w7.cell? ⟨gb392,3,none⟩ = some (.slice A1_3 l1_3.length c1_3):=(blk_cell BK392.out 3).trans rfl;have hcz10_4 : w7.cell? ⟨gb392,4,none⟩ = some (.bool a1_4):=(blk_cell BK392.out 4).trans rfl;have hcz10_5 : w7.cell? ⟨gb392,5,none⟩ = some (.bool a1_5):=(blk_cell BK392.out 5).trans rfl;have hcz10_6 : w7.cell? ⟨gb392,6,none⟩ = some (.bool a1_6):=(blk_cell BK392.out 6).trans rfl;have hfz10_0:=blk_frozen BK392.out 0;have hfz10_1:=blk_frozen BK392.out 1;have hfz10_2:=blk_frozen BK392.out 2;have hfz10_3:=blk_frozen BK392.out 3;have hfz10_4:=blk_frozen BK392.out 4;have hfz10_5:=blk_frozen BK392.out 5;have hfz10_6:=blk_frozen BK392.out 6) | ((with_reducible refine gate_callee (f:=28) rfl ?_);refine goesL_ (some 11) rfl rfl Try.func28 (by kernel_rfl) rfl #[.slice A0_2 l0_2.length c0_2,.slice A1_2 l1_2.length c1_2] rfl (by (try simp only [List.map_toArray,List.map_cons,List.map_nil]);first | done | rfl | (simp only [List.length_drop,List.length_take];rfl)) ?_;(with_reducible refine (wigwagref07_Same.calls k _ _ l0_2 _ _ l1_2 t393 _ ?side1 ?side2 ?side3 ?side4 A3.out).mono ?_);(case side1 => repeat (first | exact (Kd.C_below HR0_2.out HB.out) | (with_reducible refine Kd.C_alloc ?_ _) | (with_reducible refine Kd.C_drewN ?_ _) | (with_reducible refine Kd.C_drew ?_)));(case side2 => exact HC0_2.out);(case side3 => repeat (first | exact (Kd.C_below HR1_2.out HB.out) | (with_reducible refine Kd.C_alloc ?_ _) | (with_reducible refine Kd.C_drewN ?_ _) | (with_reducible refine Kd.C_drew ?_)));(case side4 => exact HC1_2.out);rintro e w' ⟨rfl,⟨nd,rfl⟩⟩;refine ⟨_,rfl,?_⟩) | ((with_reducible refine gate_callee (f:=28) rfl ?_);refine goesL_ (some 16) rfl rfl Try.func28 (by kernel_rfl) rfl #[.slice A0_3 l0_3.length c0_3,.slice A1_3 l1_3.length c1_3] rfl (by (try simp only [List.map_toArray,List.map_cons,List.map_nil]);first | done | rfl | (simp only [List.length_drop,List.length_take];rfl)) ?_;(with_reducible refine (wigwagref07_Same.calls k _ _ l0_3 _ _ l1_3 t394 _ ?side1 ?side2 ?side3 ?side4 A4.out).mono ?_);(case side1 => repeat (first | exact (Kd.C_below HR0_3.out (by repeat (first | (with_reducible first | exact HB.out | apply below_alloc | apply pw_below_drewN | apply below_drew1 | refine below_set ?_ GE391.out | refine below_set ?_ GE392.out) | exact HB.out))) | (with_reducible refine Kd.C_alloc ?_ _) | (with_reducible refine Kd.C_drewN ?_ _) | (with_reducible refine Kd.C_drew ?_)));(case side2 => exact HC0_3.out);(case side3 => repeat (first | exact (Kd.C_below HR1_3.out (by repeat (first | (with_reducible first | exact HB.out | apply below_alloc | apply pw_below_drewN | apply below_drew1 | refine below_set ?_ GE391.out | refine below_set ?_ GE392.out) | exact HB.out))) | (with_reducible refine Kd.C_alloc ?_ _) | (with_reducible refine Kd.C_drewN ?_ _) | (with_reducible refine Kd.C_drew ?_)));(case side4 => exact HC1_3.out);rintro e w' ⟨rfl,⟨nd,rfl⟩⟩;refine ⟨_,rfl,?_⟩))
 (try simp only [Act.put,List.setIfInBounds_toArray,List.set_cons_zero,List.set_cons_succ])
 have H:=HS5.out
 clear HS5
 by_cases c11 : t393 = true
 ·subst c11
  have H1 : (if t394 = true then (if a0_0 = a1_0 then (if (strOfNums l0_1).toList = (strOfNums l1_1).toList then (if (a0_4 == a1_4) = true then (if (a0_5 == a1_5) = true then (some (a0_6 == a1_6)) else (some false)) else (some false)) else (some false)) else (some false)) else (some false)) = some r:=by rw [if_pos rfl] at H;exact H
  clear H
  have H:=H1
  clear H1
  by_cases c12 : t394 = true
  ·subst c12
   have H1 : (if a0_0 = a1_0 then (if (strOfNums l0_1).toList = (strOfNums l1_1).toList then (if (a0_4 == a1_4) = true then (if (a0_5 == a1_5) = true then (some (a0_6 == a1_6)) else (some false)) else (some false)) else (some false)) else (some false)) = some r:=by rw [if_pos rfl] at H;exact H
   clear H
   have H:=H1
   clear H1
   by_cases c13 : a0_0 = a1_0
   ·rw [if_pos c13] at H
    have c13b0 : (a0_0 == a1_0) = true:=beq_iff_eq.mpr c13
    have c13b1 : (a0_0 != a1_0) = false:=bne_eq_false_iff_eq.mpr c13
    clear c13
    by_cases c14 : (strOfNums l0_1).toList = (strOfNums l1_1).toList
    ·rw [if_pos c14] at H
     have c14b0 : ((strOfNums l0_1).toList == (strOfNums l1_1).toList) = true:=beq_iff_eq.mpr c14
     have c14b1 : ((strOfNums l0_1).toList != (strOfNums l1_1).toList) = false:=bne_eq_false_iff_eq.mpr c14
     clear c14
     by_cases c15 : (a0_4 == a1_4) = true
     ·rw [if_pos c15] at H
      have c15b0 : (a0_4 == a1_4) = true:=c15
      (try (have c15b1 : decide (a0_4 = a1_4) = true:=by simpa using c15))
      (try (have c15b2 : (a0_4 == a1_4) = true:=by simpa using c15))
      clear c15
      by_cases c16 : (a0_5 == a1_5) = true
      ·rw [if_pos c16] at H
       have c16b0 : (a0_5 == a1_5) = true:=c16
       (try (have c16b1 : decide (a0_5 = a1_5) = true:=by simpa using c16))
       (try (have c16b2 : (a0_5 == a1_5) = true:=by simpa using c16))
       clear c16
       obtain rfl:=Option.some.inj H
       have hnb17:=NB391_392.out
       have hnc17:=NB392_391.out
       have hcz18_0 : w7.cell? ⟨gb391,0,none⟩ = some (.int .u64 a0_0):=(blk_cell BK391.out 0).trans rfl
       have hcz18_1 : w7.cell? ⟨gb391,1,none⟩ = some (.slice A0_1 l0_1.length c0_1):=(blk_cell BK391.out 1).trans rfl
       have hcz18_2 : w7.cell? ⟨gb391,2,none⟩ = some (.slice A0_2 l0_2.length c0_2):=(blk_cell BK391.out 2).trans rfl
       have hcz18_3 : w7.cell? ⟨gb391,3,none⟩ = some (.slice A0_3 l0_3.length c0_3):=(blk_cell BK391.out 3).trans rfl
       have hcz18_4 : w7.cell? ⟨gb391,4,none⟩ = some (.bool a0_4):=(blk_cell BK391.out 4).trans rfl
       have hcz18_5 : w7.cell? ⟨gb391,5,none⟩ = some (.bool a0_5):=(blk_cell BK391.out 5).trans rfl
       have hcz18_6 : w7.cell? ⟨gb391,6,none⟩ = some (.bool a0_6):=(blk_cell BK391.out 6).trans rfl
       have hfz18_0:=blk_frozen BK391.out 0
       have hfz18_1:=blk_frozen BK391.out 1
       have hfz18_2:=blk_frozen BK391.out 2
       have hfz18_3:=blk_frozen BK391.out 3
       have hfz18_4:=blk_frozen BK391.out 4
       have hfz18_5:=blk_frozen BK391.out 5
       have hfz18_6:=blk_frozen BK391.out 6
       have hcz19_0 : w7.cell? ⟨gb392,0,none⟩ = some (.int .u64 a1_0):=(blk_cell BK392.out 0).trans rfl
       have hcz19_1 : w7.cell? ⟨gb392,1,none⟩ = some (.slice A1_1 l1_1.length c1_1):=(blk_cell BK392.out 1).trans rfl
       have hcz19_2 : w7.cell? ⟨gb392,2,none⟩ = some (.slice A1_2 l1_2.length c1_2):=(blk_cell BK392.out 2).trans rfl
       have hcz19_3 : w7.cell? ⟨gb392,3,none⟩ = some (.slice A1_3 l1_3.length c1_3):=(blk_cell BK392.out 3).trans rfl
       have hcz19_4 : w7.cell? ⟨gb392,4,none⟩ = some (.bool a1_4):=(blk_cell BK392.out 4).trans rfl
       have hcz19_5 : w7.cell? ⟨gb392,5,none⟩ = some (.bool a1_5):=(blk_cell BK392.out 5).trans rfl
       have hcz19_6 : w7.cell? ⟨gb392,6,none⟩ = some (.bool a1_6):=(blk_cell BK392.out 6).trans rfl
       have hfz19_0:=blk_frozen BK392.out 0
       have hfz19_1:=blk_frozen BK392.out 1
       have hfz19_2:=blk_frozen BK392.out 2
       have hfz19_3:=blk_frozen BK392.out 3
       have hfz19_4:=blk_frozen BK392.out 4
       have hfz19_5:=blk_frozen BK392.out 5
       have hfz19_6:=blk_frozen BK392.out 6
       have hcv20:=Kd.C_string (P:=Try.prog) (A:=A0_1) (c:=c0_1) Try.underlying22 Try.underlying5 Try.underlying9 (Kd.C_below HR0_1.out HB.out)
       have hcv20n:=fun n_ : Nat => Kd.C_string (P:=Try.prog) (A:=A0_1) (c:=c0_1) Try.underlying22 Try.underlying5 Try.underlying9 (Kd.C_drewN (Kd.C_below HR0_1.out HB.out) n_)
       have hcv21:=Kd.C_string (P:=Try.prog) (A:=A1_1) (c:=c1_1) Try.underlying22 Try.underlying5 Try.underlying9 (Kd.C_below HR1_1.out HB.out)
       have hcv21n:=fun n_ : Nat => Kd.C_string (P:=Try.prog) (A:=A1_1) (c:=c1_1) Try.underlying22 Try.underlying5 Try.underlying9 (Kd.C_drewN (Kd.C_below HR1_1.out HB.out) n_)
       go_wp2
       go_ret
       exact ⟨by first | rfl | (simp [errW_none,errW_some] <;> rfl) | (simp [*,errW_none,errW_some] <;> rfl),by repeat (first | (with_reducible first | exact HB.out | apply below_alloc | apply pw_below_drewN | apply below_drew1 | refine below_set ?_ GE391.out | refine below_set ?_ GE392.out) | exact HB.out)⟩
      ·rw [if_neg c16] at H
       have c16b0 : (a0_5 == a1_5) = false:=by simpa using c16
       (try (have c16b1 : decide (a0_5 = a1_5) = false:=by simpa using c16))
       (try (have c16b2 : (a0_5 == a1_5) = false:=by simpa using c16))
       (try (have c16b3 : ¬ (a0_5 = a1_5):=by simpa using c16))
       clear c16
       obtain rfl:=Option.some.inj H
       have hnb22:=NB391_392.out
       have hnc22:=NB392_391.out
       have hcz23_0 : w7.cell? ⟨gb391,0,none⟩ = some (.int .u64 a0_0):=(blk_cell BK391.out 0).trans rfl
       have hcz23_1 : w7.cell? ⟨gb391,1,none⟩ = some (.slice A0_1 l0_1.length c0_1):=(blk_cell BK391.out 1).trans rfl
       have hcz23_2 : w7.cell? ⟨gb391,2,none⟩ = some (.slice A0_2 l0_2.length c0_2):=(blk_cell BK391.out 2).trans rfl
       have hcz23_3 : w7.cell? ⟨gb391,3,none⟩ = some (.slice A0_3 l0_3.length c0_3):=(blk_cell BK391.out 3).trans rfl
       have hcz23_4 : w7.cell? ⟨gb391,4,none⟩ = some (.bool a0_4):=(blk_cell BK391.out 4).trans rfl
       have hcz23_5 : w7.cell? ⟨gb391,5,none⟩ = some (.bool a0_5):=(blk_cell BK391.out 5).trans rfl
       have hcz23_6 : w7.cell? ⟨gb391,6,none⟩ = some (.bool a0_6):=(blk_cell BK391.out 6).trans rfl
       have hfz23_0:=blk_frozen BK391.out 0
       have hfz23_1:=blk_frozen BK391.out 1
       have hfz23_2:=blk_frozen BK391.out 2
       have hfz23_3:=blk_frozen BK391.out 3
       have hfz23_4:=blk_frozen BK391.out 4
       have hfz23_5:=blk_frozen BK391.out 5
       have hfz23_6:=blk_frozen BK391.out 6
       have hcz24_0 : w7.cell? ⟨gb392,0,none⟩ = some (.int .u64 a1_0):=(blk_cell BK392.out 0).trans rfl
       have hcz24_1 : w7.cell? ⟨gb392,1,none⟩ = some (.slice A1_1 l1_1.length c1_1):=(blk_cell BK392.out 1).trans rfl
       have hcz24_2 : w7.cell? ⟨gb392,2,none⟩ = some (.slice A1_2 l1_2.length c1_2):=(blk_cell BK392.out 2).trans rfl
       have hcz24_3 : w7.cell? ⟨gb392,3,none⟩ = some (.slice A1_3 l1_3.length c1_3):=(blk_cell BK392.out 3).trans rfl
       have hcz24_4 : w7.cell? ⟨gb392,4,none⟩ = some (.bool a1_4):=(blk_cell BK392.out 4).trans rfl
       have hcz24_5 : w7.cell? ⟨gb392,5,none⟩ = some (.bool a1_5):=(blk_cell BK392.out 5).trans rfl
       have hcz24_6 : w7.cell? ⟨gb392,6,none⟩ = some (.bool a1_6):=(blk_cell BK392.out 6).trans rfl
       have hfz24_0:=blk_frozen BK392.out 0
       have hfz24_1:=blk_frozen BK392.out 1
       have hfz24_2:=blk_frozen BK392.out 2
       have hfz24_3:=blk_frozen BK392.out 3
       have hfz24_4:=blk_frozen BK392.out 4
       have hfz24_5:=blk_frozen BK392.out 5
       have hfz24_6:=blk_frozen BK392.out 6
       have hcv25:=Kd.C_string (P:=Try.prog) (A:=A0_1) (c:=c0_1) Try.underlying22 Try.underlying5 Try.underlying9 (Kd.C_below HR0_1.out HB.out)
       have hcv25n:=fun n_ : Nat => Kd.C_string (P:=Try.prog) (A:=A0_1) (c:=c0_1) Try.underlying22 Try.underlying5 Try.underlying9 (Kd.C_drewN (Kd.C_below HR0_1.out HB.out) n_)
       have hcv26:=Kd.C_string (P:=Try.prog) (A:=A1_1) (c:=c1_1) Try.underlying22 Try.underlying5 Try.underlying9 (Kd.C_below HR1_1.out HB.out)
       have hcv26n:=fun n_ : Nat => Kd.C_string (P:=Try.prog) (A:=A1_1) (c:=c1_1) Try.underlying22 Try.underlying5 Try.underlying9 (Kd.C_drewN (Kd.C_below HR1_1.out HB.out) n_)
       go_wp2
       go_ret
       exact ⟨by first | rfl | (simp [errW_none,errW_some] <;> rfl) | (simp [*,errW_none,errW_some] <;> rfl),by repeat (first | (with_reducible first | exact HB.out | apply below_alloc | apply pw_below_drewN | apply below_drew1 | refine below_set ?_ GE391.out | refine below_set ?_ GE392.out) | exact HB.out)⟩
     ·rw [if_neg c15] at H
      have c15b0 : (a0_4 == a1_4) = false:=by simpa using c15
      (try (have c15b1 : decide (a0_4 = a1_4) = false:=by simpa using c15))
      (try (have c15b2 : (a0_4 == a1_4) = false:=by simpa using c15))
      (try (have c15b3 : ¬ (a0_4 = a1_4):=by simpa using c15))
      clear c15
      obtain rfl:=Option.some.inj H
      have hnb27:=NB391_392.out
      have hnc27:=NB392_391.out
      have hcz28_0 : w7.cell? ⟨gb391,0,none⟩ = some (.int .u64 a0_0):=(blk_cell BK391.out 0).trans rfl
      have hcz28_1 : w7.cell? ⟨gb391,1,none⟩ = some (.slice A0_1 l0_1.length c0_1):=(blk_cell BK391.out 1).trans rfl
      have hcz28_2 : w7.cell? ⟨gb391,2,none⟩ = some (.slice A0_2 l0_2.length c0_2):=(blk_cell BK391.out 2).trans rfl
      have hcz28_3 : w7.cell? ⟨gb391,3,none⟩ = some (.slice A0_3 l0_3.length c0_3):=(blk_cell BK391.out 3).trans rfl
      have hcz28_4 : w7.cell? ⟨gb391,4,none⟩ = some (.bool a0_4):=(blk_cell BK391.out 4).trans rfl
      have hcz28_5 : w7.cell? ⟨gb391,5,none⟩ = some (.bool a0_5):=(blk_cell BK391.out 5).trans rfl
      have hcz28_6 : w7.cell? ⟨gb391,6,none⟩ = some (.bool a0_6):=(blk_cell BK391.out 6).trans rfl
      have hfz28_0:=blk_frozen BK391.out 0
      have hfz28_1:=blk_frozen BK391.out 1
      have hfz28_2:=blk_frozen BK391.out 2
      have hfz28_3:=blk_frozen BK391.out 3
      have hfz28_4:=blk_frozen BK391.out 4
      have hfz28_5:=blk_frozen BK391.out 5
      have hfz28_6:=blk_frozen BK391.out 6
      have hcz29_0 : w7.cell? ⟨gb392,0,none⟩ = some (.int .u64 a1_0):=(blk_cell BK392.out 0).trans rfl
      have hcz29_1 : w7.cell? ⟨gb392,1,none⟩ = some (.slice A1_1 l1_1.length c1_1):=(blk_cell BK392.out 1).trans rfl
      have hcz29_2 : w7.cell? ⟨gb392,2,none⟩ = some (.slice A1_2 l1_2.length c1_2):=(blk_cell BK392.out 2).trans rfl
      have hcz29_3 : w7.cell? ⟨gb392,3,none⟩ = some (.slice A1_3 l1_3.length c1_3):=(blk_cell BK392.out 3).trans rfl
      have hcz29_4 : w7.cell? ⟨gb392,4,none⟩ = some (.bool a1_4):=(blk_cell BK392.out 4).trans rfl
      have hcz29_5 : w7.cell? ⟨gb392,5,none⟩ = some (.bool a1_5):=(blk_cell BK392.out 5).trans rfl
      have hcz29_6 : w7.cell? ⟨gb392,6,none⟩ = some (.bool a1_6):=(blk_cell BK392.out 6).trans rfl
      have hfz29_0:=blk_frozen BK392.out 0
      have hfz29_1:=blk_frozen BK392.out 1
      have hfz29_2:=blk_frozen BK392.out 2
      have hfz29_3:=blk_frozen BK392.out 3
      have hfz29_4:=blk_frozen BK392.out 4
      have hfz29_5:=blk_frozen BK392.out 5
      have hfz29_6:=blk_frozen BK392.out 6
      have hcv30:=Kd.C_string (P:=Try.prog) (A:=A0_1) (c:=c0_1) Try.underlying22 Try.underlying5 Try.underlying9 (Kd.C_below HR0_1.out HB.out)
      have hcv30n:=fun n_ : Nat => Kd.C_string (P:=Try.prog) (A:=A0_1) (c:=c0_1) Try.underlying22 Try.underlying5 Try.underlying9 (Kd.C_drewN (Kd.C_below HR0_1.out HB.out) n_)
      have hcv31:=Kd.C_string (P:=Try.prog) (A:=A1_1) (c:=c1_1) Try.underlying22 Try.underlying5 Try.underlying9 (Kd.C_below HR1_1.out HB.out)
      have hcv31n:=fun n_ : Nat => Kd.C_string (P:=Try.prog) (A:=A1_1) (c:=c1_1) Try.underlying22 Try.underlying5 Try.underlying9 (Kd.C_drewN (Kd.C_below HR1_1.out HB.out) n_)
      go_wp2
      go_ret
      exact ⟨by first | rfl | (simp [errW_none,errW_some] <;> rfl) | (simp [*,errW_none,errW_some] <;> rfl),by repeat (first | (with_reducible first | exact HB.out | apply below_alloc | apply pw_below_drewN | apply below_drew1 | refine below_set ?_ GE391.out | refine below_set ?_ GE392.out) | exact HB.out)⟩
    ·rw [if_neg c14] at H
     have c14b0 : ((strOfNums l0_1).toList == (strOfNums l1_1).toList) = false:=beq_eq_false_iff_ne.mpr c14
     have c14b1 : ((strOfNums l0_1).toList != (strOfNums l1_1).toList) = true:=bne_iff_ne.mpr c14
     obtain rfl:=Option.some.inj H
     have hnb32:=NB391_392.out
     have hnc32:=NB392_391.out
     have hcz33_0 : w7.cell? ⟨gb391,0,none⟩ = some (.int .u64 a0_0):=(blk_cell BK391.out 0).trans rfl
     have hcz33_1 : w7.cell? ⟨gb391,1,none⟩ = some (.slice A0_1 l0_1.length c0_1):=(blk_cell BK391.out 1).trans rfl
     have hcz33_2 : w7.cell? ⟨gb391,2,none⟩ = some (.slice A0_2 l0_2.length c0_2):=(blk_cell BK391.out 2).trans rfl
     have hcz33_3 : w7.cell? ⟨gb391,3,none⟩ = some (.slice A0_3 l0_3.length c0_3):=(blk_cell BK391.out 3).trans rfl
     have hcz33_4 : w7.cell? ⟨gb391,4,none⟩ = some (.bool a0_4):=(blk_cell BK391.out 4).trans rfl
     have hcz33_5 : w7.cell? ⟨gb391,5,none⟩ = some (.bool a0_5):=(blk_cell BK391.out 5).trans rfl
     have hcz33_6 : w7.cell? ⟨gb391,6,none⟩ = some (.bool a0_6):=(blk_cell BK391.out 6).trans rfl
     have hfz33_0:=blk_frozen BK391.out 0
     have hfz33_1:=blk_frozen BK391.out 1
     have hfz33_2:=blk_frozen BK391.out 2
     have hfz33_3:=blk_frozen BK391.out 3
     have hfz33_4:=blk_frozen BK391.out 4
     have hfz33_5:=blk_frozen BK391.out 5
     have hfz33_6:=blk_frozen BK391.out 6
     have hcz34_0 : w7.cell? ⟨gb392,0,none⟩ = some (.int .u64 a1_0):=(blk_cell BK392.out 0).trans rfl
     have hcz34_1 : w7.cell? ⟨gb392,1,none⟩ = some (.slice A1_1 l1_1.length c1_1):=(blk_cell BK392.out 1).trans rfl
     have hcz34_2 : w7.cell? ⟨gb392,2,none⟩ = some (.slice A1_2 l1_2.length c1_2):=(blk_cell BK392.out 2).trans rfl
     have hcz34_3 : w7.cell? ⟨gb392,3,none⟩ = some (.slice A1_3 l1_3.length c1_3):=(blk_cell BK392.out 3).trans rfl
     have hcz34_4 : w7.cell? ⟨gb392,4,none⟩ = some (.bool a1_4):=(blk_cell BK392.out 4).trans rfl
     have hcz34_5 : w7.cell? ⟨gb392,5,none⟩ = some (.bool a1_5):=(blk_cell BK392.out 5).trans rfl
     have hcz34_6 : w7.cell? ⟨gb392,6,none⟩ = some (.bool a1_6):=(blk_cell BK392.out 6).trans rfl
     have hfz34_0:=blk_frozen BK392.out 0
     have hfz34_1:=blk_frozen BK392.out 1
     have hfz34_2:=blk_frozen BK392.out 2
     have hfz34_3:=blk_frozen BK392.out 3
     have hfz34_4:=blk_frozen BK392.out 4
     have hfz34_5:=blk_frozen BK392.out 5
     have hfz34_6:=blk_frozen BK392.out 6
     have hcv35:=Kd.C_string (P:=Try.prog) (A:=A0_1) (c:=c0_1) Try.underlying22 Try.underlying5 Try.underlying9 (Kd.C_below HR0_1.out HB.out)
     have hcv35n:=fun n_ : Nat => Kd.C_string (P:=Try.prog) (A:=A0_1) (c:=c0_1) Try.underlying22 Try.underlying5 Try.underlying9 (Kd.C_drewN (Kd.C_below HR0_1.out HB.out) n_)
     have hcv36:=Kd.C_string (P:=Try.prog) (A:=A1_1) (c:=c1_1) Try.underlying22 Try.underlying5 Try.underlying9 (Kd.C_below HR1_1.out HB.out)
     have hcv36n:=fun n_ : Nat => Kd.C_string (P:=Try.prog) (A:=A1_1) (c:=c1_1) Try.underlying22 Try.underlying5 Try.underlying9 (Kd.C_drewN (Kd.C_below HR1_1.out HB.out) n_)
     go_wp2
     go_ret
     exact ⟨by first | rfl | (simp [errW_none,errW_some] <;> rfl) | (simp [*,errW_none,errW_some] <;> rfl),by repeat (first | (with_reducible first | exact HB.out | apply below_alloc | apply pw_below_drewN | apply below_drew1 | refine below_set ?_ GE391.out | refine below_set ?_ GE392.out) | exact HB.out)⟩
   ·rw [if_neg c13] at H
    have c13b0 : (a0_0 == a1_0) = false:=beq_eq_false_iff_ne.mpr c13
    have c13b1 : (a0_0 != a1_0) = true:=bne_iff_ne.mpr c13
    obtain rfl:=Option.some.inj H
    have hnb37:=NB391_392.out
    have hnc37:=NB392_391.out
    have hcz38_0 : w7.cell? ⟨gb391,0,none⟩ = some (.int .u64 a0_0):=(blk_cell BK391.out 0).trans rfl
    have hcz38_1 : w7.cell? ⟨gb391,1,none⟩ = some (.slice A0_1 l0_1.length c0_1):=(blk_cell BK391.out 1).trans rfl
    have hcz38_2 : w7.cell? ⟨gb391,2,none⟩ = some (.slice A0_2 l0_2.length c0_2):=(blk_cell BK391.out 2).trans rfl
    have hcz38_3 : w7.cell? ⟨gb391,3,none⟩ = some (.slice A0_3 l0_3.length c0_3):=(blk_cell BK391.out 3).trans rfl
    have hcz38_4 : w7.cell? ⟨gb391,4,none⟩ = some (.bool a0_4):=(blk_cell BK391.out 4).trans rfl
    have hcz38_5 : w7.cell? ⟨gb391,5,none⟩ = some (.bool a0_5):=(blk_cell BK391.out 5).trans rfl
    have hcz38_6 : w7.cell? ⟨gb391,6,none⟩ = some (.bool a0_6):=(blk_cell BK391.out 6).trans rfl
    have hfz38_0:=blk_frozen BK391.out 0
    have hfz38_1:=blk_frozen BK391.out 1
    have hfz38_2:=blk_frozen BK391.out 2
    have hfz38_3:=blk_frozen BK391.out 3
    have hfz38_4:=blk_frozen BK391.out 4
    have hfz38_5:=blk_frozen BK391.out 5
    have hfz38_6:=blk_frozen BK391.out 6
    have hcz39_0 : w7.cell? ⟨gb392,0,none⟩ = some (.int .u64 a1_0):=(blk_cell BK392.out 0).trans rfl
    have hcz39_1 : w7.cell? ⟨gb392,1,none⟩ = some (.slice A1_1 l1_1.length c1_1):=(blk_cell BK392.out 1).trans rfl
    have hcz39_2 : w7.cell? ⟨gb392,2,none⟩ = some (.slice A1_2 l1_2.length c1_2):=(blk_cell BK392.out 2).trans rfl
    have hcz39_3 : w7.cell? ⟨gb392,3,none⟩ = some (.slice A1_3 l1_3.length c1_3):=(blk_cell BK392.out 3).trans rfl
    have hcz39_4 : w7.cell? ⟨gb392,4,none⟩ = some (.bool a1_4):=(blk_cell BK392.out 4).trans rfl
    have hcz39_5 : w7.cell? ⟨gb392,5,none⟩ = some (.bool a1_5):=(blk_cell BK392.out 5).trans rfl
    have hcz39_6 : w7.cell? ⟨gb392,6,none⟩ = some (.bool a1_6):=(blk_cell BK392.out 6).trans rfl
    have hfz39_0:=blk_frozen BK392.out 0
    have hfz39_1:=blk_frozen BK392.out 1
    have hfz39_2:=blk_frozen BK392.out 2
    have hfz39_3:=blk_frozen BK392.out 3
    have hfz39_4:=blk_frozen BK392.out 4
    have hfz39_5:=blk_frozen BK392.out 5
    have hfz39_6:=blk_frozen BK392.out 6
    go_wp2
    go_ret
    exact ⟨by first | rfl | (simp [errW_none,errW_some] <;> rfl) | (simp [*,errW_none,errW_some] <;> rfl),by repeat (first | (with_reducible first | exact HB.out | apply below_alloc | apply pw_below_drewN | apply below_drew1 | refine below_set ?_ GE391.out | refine below_set ?_ GE392.out) | exact HB.out)⟩
  ·replace c12:=Bool.eq_false_iff.mpr c12
   subst c12
   have H1 : (some false) = some r:=by rw [if_neg (show ¬ (false = true) by decide)] at H;exact H
   clear H
   have H:=H1
   clear H1
   obtain rfl:=Option.some.inj H
   go_wp2
   go_ret
   exact ⟨by first | rfl | (simp [errW_none,errW_some] <;> rfl) | (simp [*,errW_none,errW_some] <;> rfl),by repeat (first | (with_reducible first | exact HB.out | apply below_alloc | apply pw_below_drewN | apply below_drew1 | refine below_set ?_ GE391.out | refine below_set ?_ GE392.out) | exact HB.out)⟩
 ·replace c11:=Bool.eq_false_iff.mpr c11
  subst c11
  have H1 : (some false) = some r:=by rw [if_neg (show ¬ (false = true) by decide)] at H;exact H
  clear H
  have H:=H1
  clear H1
  obtain rfl:=Option.some.inj H
  go_wp2
  go_ret
  exact ⟨by first | rfl | (simp [errW_none,errW_some] <;> rfl) | (simp [*,errW_none,errW_some] <;> rfl),by repeat (first | (with_reducible first | exact HB.out | apply below_alloc | apply pw_below_drewN | apply below_drew1 | refine below_set ?_ GE391.out | refine below_set ?_ GE392.out) | exact HB.out)⟩

end Go.Proofs.Ytadhkamocbhbmaa.P
