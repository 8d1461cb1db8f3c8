-- Printed for this claim by xprint.py of this session: contracts of this session's own stand in for what the print does not take
import Derived.Test.YtadhkamocbhbmaaPx0
namespace Go.Proofs.Ytadhkamocbhbmaa.P
open Go.RowKit Go.Proofs.YtadhkamocbhbmaaW.PrintWords Go.Proofs.YtadhkamocbhbmaaW.PrintLast Go.Proofs.YtadhkamocbhbmaaW.PrintMore
attribute [local go_sem] max2_int min2_int max_two min_two max_three min_three max_four min_four   -- for this text's walks alone
set_option linter.unusedVariables false
set_option linter.unusedSimpArgs false

/-! ### wigwagref07_joined: function 30 -/
def wigwagref07_joined.j0 : Nat → List (S37) → Int → Bool → Int → Int → Option ((List (S37)))
 | 0,_,_,_,_,_ => none
 | k + 1,x0,x5,x27,x223000,x223001 => if x27 = true then ((some (([] : List (S37)) : List (S37))).bind fun y224 => (if y224.length + x0.length < 8796093022208 then ((some (y224 ++ x0 : List (S37))).bind fun y227 => ((some (([(⟨x223000,x223001⟩ : S37)] : List (S37)) : List (S37))).bind fun y230 => (if y227.length + y230.length < 8796093022208 then (some (y227 ++ y230)) else (none)))) else (none))) else ((some (([] : List (S37)) : List (S37))).bind fun y236 => (if y236.length + x0.length < 8796093022208 then ((some (y236 ++ x0 : List (S37))).bind fun y239 => (if 0 ≤ (wrap64 (x5 - 1)) then (if (wrap64 (x5 - 1)) < (y239.length : Int) then (if x223001 > ((rd_T37 y239 (wrap64 (x5 - 1))).f1) then (some (y239.set ((wrap64 (x5 - 1)) : Int).toNat (⟨(rd_T37 y239 (wrap64 (x5 - 1))).f0,x223001⟩ : S37))) else (some y239)) else (none)) else (none))) else (none)))
def wigwagref07_joined.f (k : Nat) (l0 : List (S37)) (a1_0 : Int) (a1_1 : Int) : Option ((List (S37))):=if a1_0 ≥ a1_1 then (some l0) else (if (l0.length : Int) = 0 then (wigwagref07_joined.j0 k l0 (l0.length : Int) true a1_0 a1_1) else (if 0 ≤ (wrap64 ((l0.length : Int) - 1)) then (if (wrap64 ((l0.length : Int) - 1)) < (l0.length : Int) then (wigwagref07_joined.j0 k l0 (l0.length : Int) (decide (a1_0 > ((rd_T37 l0 (wrap64 ((l0.length : Int) - 1))).f1))) a1_0 a1_1) else (none)) else (none)))
theorem wigwagref07_joined.mono_l : ∀ k,(∀ y0 y1 y2 y3 y4,LeO (wigwagref07_joined.j0 k y0 y1 y2 y3 y4) (wigwagref07_joined.j0 (k + 1) y0 y1 y2 y3 y4))
 | 0 => fun _ _ _ _ _ r h => by simp [wigwagref07_joined.j0] at h
 | k + 1 => by
  have ih0:=wigwagref07_joined.mono_l k
  ·intro y0 y1 y2 y3 y4
   unfold wigwagref07_joined.j0
   repeat' first
   | (with_reducible exact ih0 _ _ _ _ _)
   | (with_reducible exact LeO.refl _)
   | (with_reducible exact LeO.none _)
   | (with_reducible refine LeO.ite ?_ ?_)
   | (with_reducible refine LeO.bind ?_ (fun _ => ?_))
   | exact ih0 _ _ _ _ _
   | exact LeO.none _
   | refine LeO.ite ?_ ?_
   | refine LeO.bind ?_ (fun _ => ?_)
theorem wigwagref07_joined.mono : ∀ a0 a1 a2 k,LeO (wigwagref07_joined.f k a0 a1 a2) (wigwagref07_joined.f (k + 1) a0 a1 a2):=by
 intro a0 a1 a2 k
 have ih0:=wigwagref07_joined.mono_l k
 unfold wigwagref07_joined.f
 repeat' first
   | (with_reducible exact ih0 _ _ _ _ _)
   | (with_reducible exact LeO.refl _)
   | (with_reducible exact LeO.none _)
   | (with_reducible refine LeO.ite ?_ ?_)
   | (with_reducible refine LeO.bind ?_ (fun _ => ?_))
   | exact ih0 _ _ _ _ _
   | exact LeO.none _
   | refine LeO.ite ?_ ?_
   | refine LeO.bind ?_ (fun _ => ?_)
def wigwagref07_joined.T4 : Bool × List (List Nat × List Nat):=(true,[([],[]),([0],[0]),([1],[1]),([2],[2]),([3,2],[2,3]),([2],[2]),([2],[2]),([6,2],[2,6]),([5,7,2],[2,5,7]),([8,2],[2,8]),([9,2],[2,9]),([4,10,2],[2,4,10]),([2,11],[2,11])])
def wigwagref07_joined.B4 : List Nat:=[0,1,3,7,15,7,7,71,231,487,999,2047,4095]
theorem wigwagref07_joined.tab4 : rtab .any (opsOf Try.f30 4) = wigwagref07_joined.T4:=by kernel_rfl
theorem wigwagref07_joined.bits4 : waitsOk wigwagref07_joined.T4.2 wigwagref07_joined.B4 = true:=by kernel_rfl
def wigwagref07_joined.T7 : Bool × List (List Nat × List Nat):=(true,[([],[]),([0],[0]),([],[]),([],[]),([3],[3]),([2,4],[2,4]),([5],[5]),([6],[6]),([1,7],[1,7])])
def wigwagref07_joined.B7 : List Nat:=[0,1,0,0,8,28,60,124,255]
theorem wigwagref07_joined.tab7 : rtab .any (opsOf Try.f30 7) = wigwagref07_joined.T7:=by kernel_rfl
theorem wigwagref07_joined.bits7 : waitsOk wigwagref07_joined.T7.2 wigwagref07_joined.B7 = true:=by kernel_rfl
set_option maxHeartbeats 8000000 in
set_option maxRecDepth 100000 in
theorem wigwagref07_joined.calls (k : Nat) (P0_ : Nat → Prop) (u9000_ : Value) (l0 : List (S37)) (a1_0 : Int) (a1_1 : Int) (r : List (S37)) (w0 w : World) (hB : Below w0.heap.size w0 w) (ho0 : Kd.R k37 37 w w0.heap.size P0_ u9000_ l0) (h : wigwagref07_joined.f k l0 a1_0 a1_1 = some r) :
  Calls Try.prog 30 #[u9000_,.agg #[.int .u64 a1_0,.int .u64 a1_1]] w fun e w' => ∃ v0_ : Value,e = .returned (v0_) ∧ Kd.R k37 37 w' w0.heap.size (fun k_ => (P0_ k_ ∨ w.heap.size ≤ k_)) v0_ r ∧ Below w0.heap.size w0 w' ∧ Kept w w' (fun k_ => P0_ k_):=by
 have hu37:=Try.underlying37
 have HO0:=Aside0.mk (show Kd.R k37 37 w w0.heap.size (fun k_ => (P0_ k_ ∨ w.heap.size ≤ k_)) u9000_ l0 from Kd.R_mono ho0 (fun k_ hk => (.inl hk)))
 have HK:=Aside0.mk (Kept.refl w (fun k_ => P0_ k_))
 have HW0:=Aside0.mk hB.size
 have HB:=Aside0.mk hB
 clear hB
 have H : (if a1_0 ≥ a1_1 then (some l0) else (if (l0.length : Int) = 0 then (wigwagref07_joined.j0 k l0 (l0.length : Int) true a1_0 a1_1) else (if 0 ≤ (wrap64 ((l0.length : Int) - 1)) then (if (wrap64 ((l0.length : Int) - 1)) < (l0.length : Int) then (wigwagref07_joined.j0 k l0 (l0.length : Int) (decide (a1_0 > ((rd_T37 l0 (wrap64 ((l0.length : Int) - 1))).f1))) a1_0 a1_1) else (none)) else (none)))) = some r:=h
 clear h
 by_cases c3 : a1_0 ≥ a1_1
 ·rw [if_pos c3] at H
  have c3b0 : decide (a1_1 ≤ a1_0) = true:=decide_eq_true c3
  clear c3
  obtain rfl:=Option.some.inj H
  go_enter Try.func30,Try.ntmps30
  go_wp2_with (first | ((with_reducible refine gate_dst (N:=3) rfl ?_);refine box_event ?hg (N:=3) ?hd (cs:=#[.int .u64 a1_0,.int .u64 a1_1]) (t:=37) ?hr ?_;(case hd => rfl);(case hg => rfl);(case hr => first | (go_simp;done) | (go_simp;rfl));intro gb222 hg w4 hbox hb;have n0_:=Aside0.mk (Kd.R_below (Kd.R_elderB (by (with_reducible repeat (first | apply Kd.R_alloc | apply Kd.R_drewN | apply Kd.R_drew));exact HO0.out) gb222 (Nat.le_of_eq hg.symm)) hb);have n1_:=Aside0.mk (Kept.below (S:=(fun k_ => P0_ k_)) (by repeat (first | (with_reducible first | exact HK.out | apply Kept.alloc | apply Kept.drewN | apply Kept.drew) | exact HK.out)) hb);have n2_:=Aside0.mk (below_step (by repeat (first | (with_reducible first | exact HB.out | apply below_alloc | apply pw_below_drewN | apply below_drew1) | exact HB.out)) hb);have n3_:=Aside0.mk (hbox);have n4_:=Aside0.mk ((by rw [hg];exact (by first | exact HK.out.1 | exact (show Kept w _ (fun k_ => P0_ k_) from by repeat (first | (with_reducible first | exact HK.out | apply Kept.alloc | apply Kept.drewN | apply Kept.drew) | exact HK.out)).1) : w.heap.size ≤ gb222));have n5_:=Aside0.mk ((by rw [hg];exact (below_size (by repeat (first | (with_reducible first | exact HB.out | apply below_alloc | apply pw_below_drewN | apply below_drew1) | exact HB.out))) : w0.heap.size ≤ gb222));clear HO0;clear HK;clear HB;have HO0:=n0_;have HK:=n1_;have HB:=n2_;have BK222:=n3_;have GW222:=n4_;have GE222:=n5_;clear n0_ n1_ n2_ n3_ n4_ n5_;clear hb hbox hg;obtain ⟨Ao5,co5,eo5⟩:=Kd.R_slice HO0.out;subst eo5;have hcz6_0 : w4.cell? ⟨gb222,0,none⟩ = some (.int .u64 a1_0):=(blk_cell BK222.out 0).trans rfl;have hcz6_1 : w4.cell? ⟨gb222,1,none⟩ = some (.int .u64 a1_1):=(blk_cell BK222.out 1).trans rfl;have hfz6_0:=blk_frozen BK222.out 0;have hfz6_1:=blk_frozen BK222.out 1))
  go_ret
  exact ⟨_,by first | rfl | (simp [errW_none,errW_some] <;> rfl) | (simp [*,errW_none,errW_some] <;> rfl),by (with_reducible repeat (first | apply Kd.R_alloc | apply Kd.R_drewN | apply Kd.R_drew));exact Kd.R_mono HO0.out (fun _ hk => hk.1),by repeat (first | (with_reducible first | exact HB.out | apply below_alloc | apply pw_below_drewN | apply below_drew1 | refine below_set ?_ GE222.out) | exact HB.out),by repeat (first | (with_reducible first | exact HK.out | apply Kept.alloc | apply Kept.drewN | apply Kept.drew | refine Kept.setCell ?_ (.inr GW222.out) _) | exact HK.out)⟩
 ·rw [if_neg c3] at H
  have c3b0 : decide (a1_1 ≤ a1_0) = false:=decide_eq_false c3
  clear c3
  have HC7:=Aside0.mk H
  clear H
  go_enter Try.func30,Try.ntmps30
  go_upto_region 4 with (first | ((with_reducible refine gate_dst (N:=3) rfl ?_);refine box_event ?hg (N:=3) ?hd (cs:=#[.int .u64 a1_0,.int .u64 a1_1]) (t:=37) ?hr ?_;(case hd => rfl);(case hg => rfl);(case hr => first | (go_simp;done) | (go_simp;rfl));intro gb222 hg w8 hbox hb;have n0_:=Aside0.mk (Kd.R_below (Kd.R_elderB (by (with_reducible repeat (first | apply Kd.R_alloc | apply Kd.R_drewN | apply Kd.R_drew));exact HO0.out) gb222 (Nat.le_of_eq hg.symm)) hb);have n1_:=Aside0.mk (Kept.below (S:=(fun k_ => P0_ k_)) (by repeat (first | (with_reducible first | exact HK.out | apply Kept.alloc | apply Kept.drewN | apply Kept.drew) | exact HK.out)) hb);have n2_:=Aside0.mk (below_step (by repeat (first | (with_reducible first | exact HB.out | apply below_alloc | apply pw_below_drewN | apply below_drew1) | exact HB.out)) hb);have n3_:=Aside0.mk (hbox);have n4_:=Aside0.mk ((by rw [hg];exact (by first | exact HK.out.1 | exact (show Kept w _ (fun k_ => P0_ k_) from by repeat (first | (with_reducible first | exact HK.out | apply Kept.alloc | apply Kept.drewN | apply Kept.drew) | exact HK.out)).1) : w.heap.size ≤ gb222));have n5_:=Aside0.mk ((by rw [hg];exact (below_size (by repeat (first | (with_reducible first | exact HB.out | apply below_alloc | apply pw_below_drewN | apply below_drew1) | exact HB.out))) : w0.heap.size ≤ gb222));clear HO0;clear HK;clear HB;have HO0:=n0_;have HK:=n1_;have HB:=n2_;have BK222:=n3_;have GW222:=n4_;have GE222:=n5_;clear n0_ n1_ n2_ n3_ n4_ n5_;clear hb hbox hg;obtain ⟨Ao9,co9,eo9⟩:=Kd.R_slice HO0.out;subst eo9;have hcz10_0 : w8.cell? ⟨gb222,0,none⟩ = some (.int .u64 a1_0):=(blk_cell BK222.out 0).trans rfl;have hcz10_1 : w8.cell? ⟨gb222,1,none⟩ = some (.int .u64 a1_1):=(blk_cell BK222.out 1).trans rfl;have hfz10_0:=blk_frozen BK222.out 0;have hfz10_1:=blk_frozen BK222.out 1))
  (try simp only [Act.put,List.setIfInBounds_toArray,List.set_cons_zero,List.set_cons_succ])
  go_cut [27] (fun v27 wc => ∃ (kq : Nat) (x27_6 : Bool),v27 = .bool x27_6 ∧ Aside0 (wigwagref07_joined.j0 kq l0 (l0.length : Int) x27_6 a1_0 a1_1 = some r) ∧ Aside0 (kq ≤ k) ∧ Aside0 (Kd.R k37 37 wc w0.heap.size (fun k_ => (P0_ k_ ∨ w.heap.size ≤ k_) ∧ k_ ≠ gb222) (.slice Ao9 l0.length co9) l0) ∧ Aside0 (wc.heap[gb222]? = some (.cells #[.int .u64 a1_0,.int .u64 a1_1] 37 (0,0))) ∧ Aside0 (Kept w wc (fun k_ => P0_ k_)) ∧ Aside0 (Below w0.heap.size w0 wc))
  case first =>
   have H:=HC7.out
   clear HC7
   by_cases c11 : (l0.length : Int) = 0
   ·rw [if_pos c11] at H
    have c11b0 : ((l0.length : Int) == 0) = true:=beq_iff_eq.mpr c11
    have c11b1 : ((l0.length : Int) != 0) = false:=bne_eq_false_iff_eq.mpr c11
    clear c11
    (first | rw [c11b0] | (simp only [i64_w,i32_w];rw [c11b0]) | skip)
    have H':=Aside0.mk H
    clear H
    try go_wp2
    have n0_:=Aside0.mk (Kd.R_drew HO0.out)
    have n1_:=Aside0.mk (blk_drew BK222.out)
    have n2_:=Aside0.mk (Kept.drew HK.out)
    have n3_:=Aside0.mk (below_drew1 HB.out)
    clear HO0
    clear BK222
    clear HK
    clear HB
    have HO0:=n0_
    have BK222:=n1_
    have HK:=n2_
    have HB:=n3_
    clear n0_ n1_ n2_ n3_
    refine start_ (n:=13) (S:=fun w' => True) (ds:=[]) #[false,false,false,false,false,false,false,false,false,false,false,false,false] (by kernel_rfl) rfl rfl trivial (fun hHeld => ?_);refine with_tabW wigwagref07_joined.tab4 wigwagref07_joined.bits4 (fun HT_ HW_ => ?_)
    generalize w8.drew = w12 at HO0 BK222 HK HB hHeld ⊢
    refine pure_ (i:=0) (N:=some 15) (v:=?_) (a':=?_) #[true,false,false,false,false,false,false,false,false,false,false,false,false] rfl rfl (any_of HT_.out (by kernel_rfl)) (fun _ _ _ h => h) (Or.inl ⟨by rfl,?_⟩) ?_ ?_
    rotate_left
    ·intro w'
     go_simp
     with_reducible rfl
    rotate_left
    ·simp only [Act.put,List.setIfInBounds_toArray,List.set_cons_zero,List.set_cons_succ,i64_w,i32_w]
     rfl
    refine pure_ (i:=1) (N:=some 16) (v:=?_) (a':=?_) #[true,true,false,false,false,false,false,false,false,false,false,false,false] rfl rfl (any_of HT_.out (by kernel_rfl)) (fun _ _ _ h => h) (Or.inl ⟨by rfl,?_⟩) ?_ ?_
    rotate_left
    ·intro w'
     go_simp
     with_reducible rfl
    rotate_left
    ·simp only [Act.put,List.setIfInBounds_toArray,List.set_cons_zero,List.set_cons_succ,i64_w,i32_w]
     rfl
    refine pure_ (i:=2) (N:=some 17) (v:=?_) (a':=?_) #[true,true,true,false,false,false,false,false,false,false,false,false,false] rfl rfl (any_of HT_.out (by kernel_rfl)) (fun _ _ _ h => h) (Or.inl ⟨by rfl,?_⟩) ?_ ?_
    rotate_left
    ·intro w'
     go_simp
     with_reducible rfl
    rotate_left
    ·simp only [Act.put,List.setIfInBounds_toArray,List.set_cons_zero,List.set_cons_succ,i64_w,i32_w]
     rfl
    refine pure_ (i:=3) (N:=some 18) (v:=undef) (a':=?_) #[true,true,true,true,false,false,false,false,false,false,false,false,false] rfl rfl (any_of HT_.out (by kernel_rfl)) (fun _ _ _ h => h) (Or.inr ⟨by rfl,rfl⟩) ?_ ?_
    rotate_left
    ·simp only [Act.put,List.setIfInBounds_toArray,List.set_cons_zero,List.set_cons_succ,i64_w,i32_w]
     rfl
    refine pure_ (i:=4) (N:=some 19) (v:=undef) (a':=?_) #[true,true,true,true,true,false,false,false,false,false,false,false,false] rfl rfl (any_of HT_.out (by kernel_rfl)) (fun _ _ _ h => h) (Or.inr ⟨by rfl,rfl⟩) ?_ ?_
    rotate_left
    ·simp only [Act.put,List.setIfInBounds_toArray,List.set_cons_zero,List.set_cons_succ,i64_w,i32_w]
     rfl
    refine pure_ (i:=5) (N:=some 20) (v:=undef) (a':=?_) #[true,true,true,true,true,true,false,false,false,false,false,false,false] rfl rfl (any_of HT_.out (by kernel_rfl)) (fun _ _ _ h => h) (Or.inr ⟨by rfl,rfl⟩) ?_ ?_
    rotate_left
    ·simp only [Act.put,List.setIfInBounds_toArray,List.set_cons_zero,List.set_cons_succ,i64_w,i32_w]
     rfl
    refine pure_ (i:=6) (N:=some 21) (v:=undef) (a':=?_) #[true,true,true,true,true,true,true,false,false,false,false,false,false] rfl rfl (any_of HT_.out (by kernel_rfl)) (fun _ _ _ h => h) (Or.inr ⟨by rfl,rfl⟩) ?_ ?_
    rotate_left
    ·simp only [Act.put,List.setIfInBounds_toArray,List.set_cons_zero,List.set_cons_succ,i64_w,i32_w]
     rfl
    refine pure_ (i:=7) (N:=some 22) (v:=undef) (a':=?_) #[true,true,true,true,true,true,true,true,false,false,false,false,false] rfl rfl (any_of HT_.out (by kernel_rfl)) (fun _ _ _ h => h) (Or.inr ⟨by rfl,rfl⟩) ?_ ?_
    rotate_left
    ·simp only [Act.put,List.setIfInBounds_toArray,List.set_cons_zero,List.set_cons_succ,i64_w,i32_w]
     rfl
    refine pure_ (i:=8) (N:=some 23) (v:=undef) (a':=?_) #[true,true,true,true,true,true,true,true,true,false,false,false,false] rfl rfl (any_of HT_.out (by kernel_rfl)) (fun _ _ _ h => h) (Or.inr ⟨by rfl,rfl⟩) ?_ ?_
    rotate_left
    ·simp only [Act.put,List.setIfInBounds_toArray,List.set_cons_zero,List.set_cons_succ,i64_w,i32_w]
     rfl
    refine pure_ (i:=9) (N:=some 24) (v:=undef) (a':=?_) #[true,true,true,true,true,true,true,true,true,true,false,false,false] rfl rfl (any_of HT_.out (by kernel_rfl)) (fun _ _ _ h => h) (Or.inr ⟨by rfl,rfl⟩) ?_ ?_
    rotate_left
    ·simp only [Act.put,List.setIfInBounds_toArray,List.set_cons_zero,List.set_cons_succ,i64_w,i32_w]
     rfl
    refine pure_ (i:=10) (N:=some 25) (v:=undef) (a':=?_) #[true,true,true,true,true,true,true,true,true,true,true,false,false] rfl rfl (any_of HT_.out (by kernel_rfl)) (fun _ _ _ h => h) (Or.inr ⟨by rfl,rfl⟩) ?_ ?_
    rotate_left
    ·simp only [Act.put,List.setIfInBounds_toArray,List.set_cons_zero,List.set_cons_succ,i64_w,i32_w]
     rfl
    refine pure_ (i:=11) (N:=some 26) (v:=undef) (a':=?_) #[true,true,true,true,true,true,true,true,true,true,true,true,false] rfl rfl (any_of HT_.out (by kernel_rfl)) (fun _ _ _ h => h) (Or.inr ⟨by rfl,rfl⟩) ?_ ?_
    rotate_left
    ·simp only [Act.put,List.setIfInBounds_toArray,List.set_cons_zero,List.set_cons_succ,i64_w,i32_w]
     rfl
    refine pure_ (i:=12) (N:=some 27) (v:=?_) (a':=?_) #[true,true,true,true,true,true,true,true,true,true,true,true,true] rfl rfl (any_of HT_.out (by kernel_rfl)) (fun _ _ _ h => h) (Or.inl ⟨by rfl,?_⟩) ?_ ?_
    rotate_left
    ·intro w'
     go_simp
     with_reducible rfl
    rotate_left
    ·simp only [Act.put,List.setIfInBounds_toArray,List.set_cons_zero,List.set_cons_succ,i64_w,i32_w]
     rfl
    refine done_ (done_of HT_.out (by kernel_rfl)) ?_
    try go_wp2
    go_meet
    case rel => exact ⟨_,(true),(by first | rfl | (simp;done) | (simp [*];done)),H',⟨by first | omega | exact Nat.le_refl _⟩,⟨by (with_reducible repeat (first | apply Kd.R_alloc | apply Kd.R_drewN | apply Kd.R_drew));exact HO0.out⟩,⟨by (with_reducible repeat (first | refine blk_drewN ?_ _ | refine blk_drew ?_ | refine blk_alloc ?_ _));exact BK222.out⟩,⟨by repeat (first | (with_reducible first | exact HK.out | apply Kept.alloc | apply Kept.drewN | apply Kept.drew | refine Kept.setCell ?_ (.inr GW222.out) _) | exact HK.out)⟩,⟨by repeat (first | (with_reducible first | exact HB.out | apply below_alloc | apply pw_below_drewN | apply below_drew1 | refine below_set ?_ GE222.out) | exact HB.out)⟩⟩
   ·rw [if_neg c11] at H
    have c11b0 : ((l0.length : Int) == 0) = false:=beq_eq_false_iff_ne.mpr c11
    have c11b1 : ((l0.length : Int) != 0) = true:=bne_iff_ne.mpr c11
    have c11b2 : ¬ (l0 = []):=fun h_ => c11 (by rw [h_];rfl)
    (first | rw [c11b0] | (simp only [i64_w,i32_w];rw [c11b0]) | skip)
    obtain ⟨ji13,hji13⟩ : ∃ j_ : Int,(wrap64 ((l0.length : Int) - 1)) = j_:=⟨_,rfl⟩
    replace H : (if 0 ≤ (ji13) then (if (ji13) < (l0.length : Int) then (wigwagref07_joined.j0 k l0 (l0.length : Int) (decide (a1_0 > ((rd_T37 l0 (ji13)).f1))) a1_0 a1_1) else (none)) else (none)) = some r:=by first | (rw [hji13] at H;exact H) | (simp only [hji13] at H ⊢;exact H)
    have hji13w : (IntKind.i64.wrap ((l0.length : Int) - 1)) = ji13:=(i64_w _).trans hji13
    by_cases c14 : 0 ≤ (ji13)
    ·rw [if_pos c14] at H
     have c14b0 : decide (0 ≤ (ji13)) = true:=decide_eq_true c14
     clear c14
     by_cases c15 : (ji13) < (l0.length : Int)
     ·rw [if_pos c15] at H
      have c15b0 : decide ((ji13) < (l0.length : Int)) = true:=decide_eq_true c15
      clear c15
      have H':=Aside0.mk H
      clear H
      try go_wp2
      have n0_:=Aside0.mk (Kd.R_drew HO0.out)
      have n1_:=Aside0.mk (blk_drew BK222.out)
      have n2_:=Aside0.mk (Kept.drew HK.out)
      have n3_:=Aside0.mk (below_drew1 HB.out)
      clear HO0
      clear BK222
      clear HK
      clear HB
      have HO0:=n0_
      have BK222:=n1_
      have HK:=n2_
      have HB:=n3_
      clear n0_ n1_ n2_ n3_
      have p223 : 0 ≤ ((ji13) : Int):=of_decide_eq_true (by first | (with_reducible assumption) | assumption)
      have q223 : (ji13) < (l0.length : Int):=of_decide_eq_true (by first | (with_reducible assumption) | assumption)
      obtain ⟨ad223,e223,hx223_0,hx223_1⟩:=at_T37 (Kd.R_reads' HO0.out).2.2 (ji13) p223 q223
      cases e223
      replace p223:=eq_true p223
      replace q223:=eq_true q223
      refine start_ (n:=13) (S:=fun w' => w'.cell? ⟨gb222,0,none⟩ = some (.int .u64 a1_0) ∧ w'.cell? ⟨gb222,1,none⟩ = some (.int .u64 a1_1) ∧ w'.cell? (ad223.add (((ji13)).toNat * 2)) = some (.int .u64 ((rd_T37 l0 (ji13)).f0)) ∧ w'.cell? ⟨(ad223.add (((ji13)).toNat * 2)).block,(ad223.add (((ji13)).toNat * 2)).off + 1,none⟩ = some (.int .u64 ((rd_T37 l0 (ji13)).f1))) (ds:=[]) #[false,false,false,false,false,false,false,false,false,false,false,false,false] (by kernel_rfl) rfl rfl ⟨(blk_cell BK222.out 0).trans rfl,(blk_cell BK222.out 1).trans rfl,hx223_0,hx223_1⟩ (fun hHeld => ?_);refine with_tabW wigwagref07_joined.tab4 wigwagref07_joined.bits4 (fun HT_ HW_ => ?_)
      generalize w8.drew = w16 at HO0 BK222 HK HB hx223_0 hx223_1 hHeld ⊢
      refine pure_ (i:=0) (N:=some 15) (v:=?_) (a':=?_) #[true,false,false,false,false,false,false,false,false,false,false,false,false] rfl rfl (any_of HT_.out (by kernel_rfl)) (fun _ _ _ h => h) (Or.inl ⟨by rfl,?_⟩) ?_ ?_
      rotate_left
      ·intro w'
       go_simp
       with_reducible rfl
      rotate_left
      ·simp only [Act.put,List.setIfInBounds_toArray,List.set_cons_zero,List.set_cons_succ,i64_w,i32_w]
       rfl
      refine pure_ (i:=1) (N:=some 16) (v:=?_) (a':=?_) #[true,true,false,false,false,false,false,false,false,false,false,false,false] rfl rfl (any_of HT_.out (by kernel_rfl)) (fun _ _ _ h => h) (Or.inl ⟨by rfl,?_⟩) ?_ ?_
      rotate_left
      ·intro w'
       go_simp
       with_reducible rfl
      rotate_left
      ·simp only [Act.put,List.setIfInBounds_toArray,List.set_cons_zero,List.set_cons_succ,i64_w,i32_w]
       rfl
      refine pure_ (i:=2) (N:=some 17) (v:=?_) (a':=?_) #[true,true,true,false,false,false,false,false,false,false,false,false,false] rfl rfl (any_of HT_.out (by kernel_rfl)) (fun _ _ _ h => h) (Or.inl ⟨by rfl,?_⟩) ?_ ?_
      rotate_left
      ·intro w'
       go_simp
       with_reducible rfl
      rotate_left
      ·simp only [Act.put,List.setIfInBounds_toArray,List.set_cons_zero,List.set_cons_succ,i64_w,i32_w]
       rfl
      refine pure_ (i:=3) (N:=some 18) (v:=?_) (a':=?_) #[true,true,true,true,false,false,false,false,false,false,false,false,false] rfl rfl (any_of HT_.out (by kernel_rfl)) (fun _ _ _ h => h) (Or.inl ⟨by rfl,?_⟩) ?_ ?_
      rotate_left
      ·intro w'
       go_simp
       with_reducible rfl
      rotate_left
      ·simp only [Act.put,List.setIfInBounds_toArray,List.set_cons_zero,List.set_cons_succ,i64_w,i32_w]
       rfl
      refine pure_ (i:=5) (N:=some 20) (v:=?_) (a':=?_) #[true,true,true,true,false,true,false,false,false,false,false,false,false] rfl rfl (any_of HT_.out (by kernel_rfl)) (fun _ _ _ h => h) (Or.inl ⟨by rfl,?_⟩) ?_ ?_
      rotate_left
      ·intro w'
       go_simp
       with_reducible rfl
      rotate_left
      ·simp only [Act.put,List.setIfInBounds_toArray,List.set_cons_zero,List.set_cons_succ,i64_w,i32_w]
       rfl
      refine pure_ (i:=6) (N:=some 21) (v:=?_) (a':=?_) #[true,true,true,true,false,true,true,false,false,false,false,false,false] rfl rfl (any_of HT_.out (by kernel_rfl)) (fun _ _ _ h => h) (Or.inl ⟨by rfl,?_⟩) ?_ ?_
      rotate_left
      ·intro w'
       go_simp
       with_reducible rfl
      rotate_left
      ·simp only [Act.put,List.setIfInBounds_toArray,List.set_cons_zero,List.set_cons_succ,i64_w,i32_w]
       rfl
      refine pure_ (i:=7) (N:=some 22) (v:=?_) (a':=?_) #[true,true,true,true,false,true,true,true,false,false,false,false,false] rfl rfl (any_of HT_.out (by kernel_rfl)) (fun _ _ _ h => h) (Or.inl ⟨by rfl,?_⟩) ?_ ?_
      rotate_left
      ·intro w'
       go_simp
       with_reducible rfl
      rotate_left
      ·simp only [Act.put,List.setIfInBounds_toArray,List.set_cons_zero,List.set_cons_succ,i64_w,i32_w]
       rfl
      refine pure_ (i:=8) (N:=some 23) (v:=?_) (a':=?_) #[true,true,true,true,false,true,true,true,true,false,false,false,false] rfl rfl (any_of HT_.out (by kernel_rfl)) (fun _ _ _ h => h) (Or.inl ⟨by rfl,?_⟩) ?_ ?_
      rotate_left
      ·intro w'
       go_simp
       with_reducible rfl
      rotate_left
      ·simp only [Act.put,List.setIfInBounds_toArray,List.set_cons_zero,List.set_cons_succ,i64_w,i32_w]
       rfl
      refine pure_ (i:=9) (N:=some 24) (v:=?_) (a':=?_) #[true,true,true,true,false,true,true,true,true,true,false,false,false] rfl rfl (any_of HT_.out (by kernel_rfl)) (fun _ _ _ h => h) (Or.inl ⟨by rfl,?_⟩) ?_ ?_
      rotate_left
      ·intro w'
       go_simp
       with_reducible rfl
      rotate_left
      ·simp only [Act.put,List.setIfInBounds_toArray,List.set_cons_zero,List.set_cons_succ,i64_w,i32_w]
       rfl
      refine take_ (i:=4) (N:=some 19) (v:=?_) (a':=?_) #[true,true,true,true,true,true,true,true,true,true,false,false,false] rfl rfl (take_ofW HT_.out HW_.out (by kernel_rfl)) (fun _ _ _ h => h) (Or.inl ⟨by rfl,?_⟩) hHeld ?_ ?_
      rotate_left
      ·rintro w' ⟨s0,s1,s2,s3⟩
       go_simp
       with_reducible rfl
      rotate_left
      ·simp only [Act.put,List.setIfInBounds_toArray,List.set_cons_zero,List.set_cons_succ,i64_w,i32_w]
       rfl
      refine take_ (i:=10) (N:=some 25) (v:=?_) (a':=?_) #[true,true,true,true,true,true,true,true,true,true,true,false,false] rfl rfl (take_ofW HT_.out HW_.out (by kernel_rfl)) (fun _ _ _ h => h) (Or.inl ⟨by rfl,?_⟩) hHeld ?_ ?_
      rotate_left
      ·rintro w' ⟨s0,s1,s2,s3⟩
       go_simp
       with_reducible rfl
      rotate_left
      ·simp only [Act.put,List.setIfInBounds_toArray,List.set_cons_zero,List.set_cons_succ,i64_w,i32_w]
       rfl
      refine pure_ (i:=11) (N:=some 26) (v:=?_) (a':=?_) #[true,true,true,true,true,true,true,true,true,true,true,true,false] rfl rfl (any_of HT_.out (by kernel_rfl)) (fun _ _ _ h => h) (Or.inl ⟨by rfl,?_⟩) ?_ ?_
      rotate_left
      ·intro w'
       go_simp
       with_reducible rfl
      rotate_left
      ·simp only [Act.put,List.setIfInBounds_toArray,List.set_cons_zero,List.set_cons_succ,i64_w,i32_w]
       rfl
      refine pure_ (i:=12) (N:=some 27) (v:=?_) (a':=?_) #[true,true,true,true,true,true,true,true,true,true,true,true,true] rfl rfl (any_of HT_.out (by kernel_rfl)) (fun _ _ _ h => h) (Or.inl ⟨by rfl,?_⟩) ?_ ?_
      rotate_left
      ·intro w'
       go_simp
       with_reducible rfl
      rotate_left
      ·simp only [Act.put,List.setIfInBounds_toArray,List.set_cons_zero,List.set_cons_succ,i64_w,i32_w]
       rfl
      refine done_ (done_of HT_.out (by kernel_rfl)) ?_
      try go_wp2
      go_meet
      case rel => exact ⟨_,(decide (a1_0 > ((rd_T37 l0 (ji13)).f1))),(by first | rfl | (simp;done) | (simp only [← hji13] <;> (first | rfl | (simp;done))) | (simp [*];done) | (simp only [← hji13];congr 1;unfold mn mx;omega) | (simp only [← hji13];congr 1;unfold mn;omega) | (simp only [← hji13];congr 1;unfold mx;omega)),H',⟨by first | omega | exact Nat.le_refl _⟩,⟨by (with_reducible repeat (first | apply Kd.R_alloc | apply Kd.R_drewN | apply Kd.R_drew));exact HO0.out⟩,⟨by (with_reducible repeat (first | refine blk_drewN ?_ _ | refine blk_drew ?_ | refine blk_alloc ?_ _));exact BK222.out⟩,⟨by repeat (first | (with_reducible first | exact HK.out | apply Kept.alloc | apply Kept.drewN | apply Kept.drew | refine Kept.setCell ?_ (.inr GW222.out) _) | exact HK.out)⟩,⟨by repeat (first | (with_reducible first | exact HB.out | apply below_alloc | apply pw_below_drewN | apply below_drew1 | refine below_set ?_ GE222.out) | exact HB.out)⟩⟩
     ·rw [if_neg c15] at H
      exact absurd H (by simp)
    ·rw [if_neg c14] at H
     exact absurd H (by simp)
  case rest =>
   clear HC7
   try clear c1
   try clear p2
   try clear q2
   try clear hx2
   try clear c3
   try clear c3b0
   try clear p6
   try clear c11
   try clear c11b0
   try clear c11b1
   try clear c11b2
   try clear c14
   try clear c14b0
   try clear c15
   try clear c15b0
   try clear hcz10_0
   try clear hcz10_1
   try clear hcz6_0
   try clear hcz6_1
   try clear hfz10_0
   try clear hfz10_1
   try clear hfz6_0
   try clear hfz6_1
   try clear hx223_0
   try clear hx223_1
   try clear p223
   try clear q223
   obtain ⟨kq,x27_6,rfl,HA,HJ6,HO_0,BK222,HK,HB⟩:=hcut
   cases kq with
   | zero => exact absurd HA.out (by simp [wigwagref07_joined.j0])
   | succ kj6 =>
    have H:=HA.out
    clear HA
    simp only [wigwagref07_joined.j0] at H
    by_cases c17 : x27_6 = true
    ·subst c17
     have H1 : ((some (([] : List (S37)) : List (S37))).bind fun y224 => (if y224.length + l0.length < 8796093022208 then ((some (y224 ++ l0 : List (S37))).bind fun y227 => ((some (([(⟨a1_0,a1_1⟩ : S37)] : List (S37)) : List (S37))).bind fun y230 => (if y227.length + y230.length < 8796093022208 then (some (y227 ++ y230)) else (none)))) else (none))) = some r:=by rw [if_pos rfl] at H;exact H
     clear H
     have H:=H1
     clear H1
     obtain ⟨y224,hy224⟩ : ∃ y_ : List (S37),y_ = (([] : List (S37))):=⟨_,rfl⟩
     replace H : (if y224.length + l0.length < 8796093022208 then ((some (y224 ++ l0 : List (S37))).bind fun y227 => ((some (([(⟨a1_0,a1_1⟩ : S37)] : List (S37)) : List (S37))).bind fun y230 => (if y227.length + y230.length < 8796093022208 then (some (y227 ++ y230)) else (none)))) else (none)) = some r:=by first | (rw [hy224];with_reducible exact H) | (have H2_:=(Option.bind_some _ _).symm.trans H;rw [hy224];with_reducible exact H2_) | (have H2_:=(Option.bind_some _ _).symm.trans H;with_reducible exact H2_) | with_reducible exact H | (rw [hy224];exact H) | exact H
     have Ny224:=Aside0.mk hy224
     clear hy224
     by_cases c18 : y224.length + l0.length < 8796093022208
     ·rw [if_pos c18] at H
      have LMc18:=Aside0.mk c18
      clear c18
      obtain ⟨y227,hy227⟩ : ∃ y_ : List (S37),y_ = (y224 ++ l0):=⟨_,rfl⟩
      replace H : ((some (([(⟨a1_0,a1_1⟩ : S37)] : List (S37)) : List (S37))).bind fun y230 => (if y227.length + y230.length < 8796093022208 then (some (y227 ++ y230)) else (none))) = some r:=by first | (rw [hy227];with_reducible exact H) | (have H2_:=(Option.bind_some _ _).symm.trans H;rw [hy227];with_reducible exact H2_) | (have H2_:=(Option.bind_some _ _).symm.trans H;with_reducible exact H2_) | with_reducible exact H | (rw [hy227];exact H) | exact H
      have Ny227:=Aside0.mk hy227
      clear hy227
      obtain ⟨y230,hy230⟩ : ∃ y_ : List (S37),y_ = (([(⟨a1_0,a1_1⟩ : S37)] : List (S37))):=⟨_,rfl⟩
      replace H : (if y227.length + y230.length < 8796093022208 then (some (y227 ++ y230)) else (none)) = some r:=by first | (rw [hy230];with_reducible exact H) | (have H2_:=(Option.bind_some _ _).symm.trans H;rw [hy230];with_reducible exact H2_) | (have H2_:=(Option.bind_some _ _).symm.trans H;with_reducible exact H2_) | with_reducible exact H | (rw [hy230];exact H) | exact H
      have Ny230:=Aside0.mk hy230
      clear hy230
      by_cases c19 : y227.length + y230.length < 8796093022208
      ·rw [if_pos c19] at H
       have LMc19:=Aside0.mk c19
       clear c19
       obtain ⟨y233,hy233⟩ : ∃ y_ : List (S37),y_ = (y227 ++ y230):=⟨_,rfl⟩
       replace H : (some y233) = some r:=by first | (rw [hy233];with_reducible exact H) | (have H2_:=(Option.bind_some _ _).symm.trans H;rw [hy233];with_reducible exact H2_) | (have H2_:=(Option.bind_some _ _).symm.trans H;with_reducible exact H2_) | with_reducible exact H | (rw [hy233];exact H) | exact H
       have Ny233:=Aside0.mk hy233
       clear hy233
       obtain rfl:=Option.some.inj H
       try go_wp2
       have n0_:=Aside0.mk (Kd.R_drew HO_0.out)
       have n1_:=Aside0.mk (blk_drew BK222.out)
       have n2_:=Aside0.mk (Kept.drew HK.out)
       have n3_:=Aside0.mk (below_drew1 HB.out)
       clear HO_0
       clear BK222
       clear HK
       clear HB
       have HO_0:=n0_
       have BK222:=n1_
       have HK:=n2_
       have HB:=n3_
       clear n0_ n1_ n2_ n3_
       refine start_ (n:=7) (S:=fun w' => w'.cell? ⟨gb222,0,none⟩ = some (.int .u64 a1_0) ∧ w'.cell? ⟨gb222,1,none⟩ = some (.int .u64 a1_1)) (ds:=[]) #[false,false,false,false,false,false,false] (by kernel_rfl) rfl rfl ⟨(blk_cell BK222.out 0).trans rfl,(blk_cell BK222.out 1).trans rfl⟩ (fun hHeld => ?_)
       generalize wc.drew = w20 at HO_0 BK222 HK HB hHeld ⊢
       refine pure_ (i:=1) (N:=some 29) (v:=?_) (a':=?_) #[false,true,false,false,false,false,false] rfl rfl (by kernel_rfl) (fun _ _ _ h => h) (Or.inl ⟨by rfl,?_⟩) ?_ ?_
       rotate_left
       ·intro w'
        go_simp
        with_reducible rfl
       rotate_left
       ·simp only [Act.put,List.setIfInBounds_toArray,List.set_cons_zero,List.set_cons_succ,i64_w,i32_w]
        rfl
       refine take_ (i:=3) (N:=some 31) (v:=?_) (a':=?_) #[false,true,false,true,false,false,false] rfl rfl (by kernel_rfl) (fun _ _ _ h => h) (Or.inl ⟨by rfl,?_⟩) hHeld ?_ ?_
       rotate_left
       ·rintro w' ⟨s0,s1⟩
        go_simp
        with_reducible rfl
       rotate_left
       ·simp only [Act.put,List.setIfInBounds_toArray,List.set_cons_zero,List.set_cons_succ,i64_w,i32_w]
        rfl
       refine join_ (σ:=Value × Value × Value) 2 #[true,true,true,true,true,false,false] (fun s_ => [(28,s_.1),(30,s_.2.1),(32,s_.2.2)]) (fun s_ w' => (w'.cell? ⟨gb222,0,none⟩ = some (.int .u64 a1_0) ∧ w'.cell? ⟨gb222,1,none⟩ = some (.int .u64 a1_1)) ∧ (Kd.R k37 37 w' w0.heap.size (fun k_ => (P0_ k_ ∨ w.heap.size ≤ k_) ∧ some k_ ≠ (s_.2.2 : Value).ownBlock ∧ some k_ ≠ (.slice Ao9 l0.length co9 : Value).ownBlock ∧ k_ ≠ gb222) s_.2.1 y227) ∧ (Kd.R k37 37 w' w0.heap.size (fun k_ => (P0_ k_ ∨ w.heap.size ≤ k_) ∧ some k_ ≠ (s_.2.1 : Value).ownBlock ∧ some k_ ≠ (.slice Ao9 l0.length co9 : Value).ownBlock ∧ k_ ≠ gb222) s_.2.2 y230) ∧ (Kd.R k37 37 w' w0.heap.size (fun k_ => (P0_ k_ ∨ w.heap.size ≤ k_) ∧ some k_ ≠ (s_.2.1 : Value).ownBlock ∧ some k_ ≠ (s_.2.2 : Value).ownBlock ∧ k_ ≠ gb222) (.slice Ao9 l0.length co9) l0) ∧ (w'.heap[gb222]? = some (.cells #[.int .u64 a1_0,.int .u64 a1_1] 37 (0,0))) ∧ (Kept w w' (fun k_ => P0_ k_)) ∧ (Below w0.heap.size w0 w')) ?_ ?_
       rotate_left
       ·intro hCont
        refine two_ (i:=0) (j:=4) (Ni:=some 28) (Nj:=some 32) #[true,true,false,true,false,false,false] #[false,true,false,true,true,false,false] rfl rfl rfl rfl (by kernel_rfl) (by decide) (by decide) (fun K hK => ?_) (fun K hK => ?_)
        ·skip
         refine Kd.R_lit_step k37 _ 37 ?hg (N:=28) ?hd (xs:=([] : List (S37))) (inner:=[]) (ok:=fun _ => True) (okp:=fun _ => True) ?hr ?hp (fun _ hk => hk) trivial (Below.refl _ _) (Nat.le_refl _) (by simp) ?_;(case hd => rfl);(case hg => rfl);(case hr => first | (go_simp;done) | (go_simp;rfl));(case hp => exact (Reps.none _ _))
         intro v225 w21 ho22 hb hg_ hnew_
         clear hg_ hnew_
         (first | rw [← Ny224.out] at ho22 | (simp only [Int.reduceToNat] at ho22;rw [← Ny224.out] at ho22))
         have n0_:=Aside0.mk (Kd.R_elder' (by (with_reducible repeat (first | apply Kd.R_alloc | apply Kd.R_drewN | apply Kd.R_drew));exact HO_0.out) (Kd.R_base ho22) hb)
         have n1_:=Aside0.mk (Kd.R_lower (Kd.R_newB (Kd.R_new' (Kd.R_newM (M:=fun k_ => (P0_ k_ ∨ w.heap.size ≤ k_)) ho22 (by first | exact HK.out.1 | exact (show Kept w _ (fun k_ => P0_ k_) from by repeat (first | (with_reducible first | exact HK.out | apply Kept.alloc | apply Kept.drewN | apply Kept.drew | refine Kept.setCell ?_ (.inr GW222.out) _) | exact HK.out)).1) (fun k_ h_ => .inr h_)) (Kd.R_lt (by (with_reducible repeat (first | apply Kd.R_alloc | apply Kd.R_drewN | apply Kd.R_drew));exact HO_0.out))) (g:=gb222) (o:=.cells #[.int .u64 a1_0,.int .u64 a1_1] 37 (0,0)) (by (with_reducible repeat (first | refine blk_drewN ?_ _ | refine blk_drew ?_ | refine blk_alloc ?_ _));exact BK222.out)) (below_size (by repeat (first | (with_reducible first | exact HB.out | apply below_alloc | apply pw_below_drewN | apply below_drew1 | refine below_set ?_ GE222.out) | exact HB.out))))
         have n2_:=Aside0.mk (blk_below (g:=gb222) (o:=.cells #[.int .u64 a1_0,.int .u64 a1_1] 37 (0,0)) (by (with_reducible repeat (first | refine blk_drewN ?_ _ | refine blk_drew ?_ | refine blk_alloc ?_ _));exact BK222.out) hb)
         have n3_:=Aside0.mk (Kept.below (S:=(fun k_ => P0_ k_)) (by repeat (first | (with_reducible first | exact HK.out | apply Kept.alloc | apply Kept.drewN | apply Kept.drew | refine Kept.setCell ?_ (.inr GW222.out) _) | exact HK.out)) hb)
         have n4_:=Aside0.mk (below_step (by repeat (first | (with_reducible first | exact HB.out | apply below_alloc | apply pw_below_drewN | apply below_drew1 | refine below_set ?_ GE222.out) | exact HB.out)) hb)
         clear HO_0
         clear BK222
         clear HK
         clear HB
         have HO_0:=n0_
         have HO226:=n1_
         have BK222:=n2_
         have HK:=n3_
         have HB:=n4_
         clear n0_ n1_ n2_ n3_ n4_
         clear hb ho22
         refine hK.out _ _ ⟨(blk_cell BK222.out 0).trans rfl,(blk_cell BK222.out 1).trans rfl⟩ (fun hHeld => ?_)
         clear hK K
         refine norm_ (a':=?_) ?_ ?_
         rotate_left
         ·show Act.put _ (some 28) _ = _
          simp only [Act.put,List.setIfInBounds_toArray,List.set_cons_zero,List.set_cons_succ,i64_w,i32_w]
          rfl
         refine two_ (i:=2) (j:=4) (Ni:=some 30) (Nj:=some 32) #[true,true,true,true,false,false,false] #[true,true,false,true,true,false,false] rfl rfl rfl rfl (by kernel_rfl) (by decide) (by decide) (fun K hK => ?_) (fun K hK => ?_)
         ·skip
          refine Kd.R_append_rows_step k37 (w0:=w0) w0.heap.size (by rfl) (.tmp 28) (.tmp 29) 25 37 (.agg #[(.int .u64 0),(.int .u64 0)]) 16 rfl Try.underlying25 info37 rfl (by decide) (by omega) v225 y224 l0 _ _ _ (fun k_ => (P0_ k_ ∨ w.heap.size ≤ k_) ∧ some k_ ≠ (.slice Ao9 l0.length co9 : Value).ownBlock ∧ k_ ≠ gb222) (fun _ => False) rfl rfl ?aO ?aR (fun _ _ h => h) (fun _ h => h.elim) ?aF ?aB ?aS ?aL ?_
          (case aR => repeat (first | exact (Kd.R_reads' HO_0.out).2.2 | (with_reducible refine Kd.C_alloc ?_ _) | (with_reducible refine Kd.C_drewN ?_ _) | (with_reducible refine Kd.C_drew ?_)))
          (case aB => exact (by repeat (first | (with_reducible first | exact HB.out | apply below_alloc | apply pw_below_drewN | apply below_drew1 | refine below_set ?_ GE222.out) | exact HB.out)))
          (case aF => exact (fun k_ hk => ⟨(.inr (Nat.le_trans (by first | exact HK.out.1 | exact (show Kept w _ (fun k_ => P0_ k_) from by repeat (first | (with_reducible first | exact HK.out | apply Kept.alloc | apply Kept.drewN | apply Kept.drew | refine Kept.setCell ?_ (.inr GW222.out) _) | exact HK.out)).1) hk)),Kd.fresh' (Kd.R_lt (by (with_reducible repeat (first | apply Kd.R_alloc | apply Kd.R_drewN | apply Kd.R_drew));exact HO_0.out)) k_ hk,Kd.freshB (g:=gb222) (o:=.cells #[.int .u64 a1_0,.int .u64 a1_1] 37 (0,0)) (by (with_reducible repeat (first | refine blk_drewN ?_ _ | refine blk_drew ?_ | refine blk_alloc ?_ _));exact BK222.out) k_ hk⟩))
          (case aO => exact (by (with_reducible repeat (first | apply Kd.R_alloc | apply Kd.R_drewN | apply Kd.R_drew));exact Kd.R_mono HO226.out (fun _ hk => ⟨hk.1.1.1,⟨hk.1.2,hk.2⟩⟩)))
          (case aS => exact (below_size (by repeat (first | (with_reducible first | exact HB.out | apply below_alloc | apply pw_below_drewN | apply below_drew1 | refine below_set ?_ GE222.out) | exact HB.out))))
          (case aL => have:=LMc18.out;omega)
          intro v228 w23 ho hb hg hat
          rw [← Ny227.out] at ho
          have n0_:=Aside0.mk (Kd.R_after (ok:=(fun k_ => (P0_ k_ ∨ w.heap.size ≤ k_) ∧ k_ ≠ gb222)) (by (with_reducible repeat (first | apply Kd.R_alloc | apply Kd.R_drewN | apply Kd.R_drew));exact HO_0.out) hg hat)
          have n1_:=Aside0.mk (blk_grown (g:=gb222) (o:=.cells #[.int .u64 a1_0,.int .u64 a1_1] 37 (0,0)) (by (with_reducible repeat (first | refine blk_drewN ?_ _ | refine blk_drew ?_ | refine blk_alloc ?_ _));exact BK222.out) hg (Kd.R_away HO226.out (fun _ hk => hk.2)))
          have n2_:=Aside0.mk (hb)
          have n3_:=Aside0.mk (Kept.of_grown (S:=(fun k_ => P0_ k_)) hg (by repeat (first | (with_reducible first | exact HK.out | apply Kept.alloc | apply Kept.drewN | apply Kept.drew | refine Kept.setCell ?_ (.inr GW222.out) _) | exact HK.out)) (fun k_ e_ => (HO226.out.1 k_ e_).1.1.1))
          have n4_:=Aside0.mk (ho)
          clear HO_0
          clear BK222
          clear HB
          clear HK
          clear HO226
          have HO_0:=n0_
          have BK222:=n1_
          have HB:=n2_
          have HK:=n3_
          have HO229:=n4_
          clear n0_ n1_ n2_ n3_ n4_
          clear ho hb hg hat
          refine hK.out _ _ ⟨(blk_cell BK222.out 0).trans rfl,(blk_cell BK222.out 1).trans rfl⟩ (fun hHeld => ?_)
          clear hK K
          refine norm_ (a':=?_) ?_ ?_
          rotate_left
          ·show Act.put _ (some 30) _ = _
           simp only [Act.put,List.setIfInBounds_toArray,List.set_cons_zero,List.set_cons_succ,i64_w,i32_w]
           rfl
          refine one_ (i:=4) (N:=some 32) #[true,true,true,true,true,false,false] rfl rfl (by kernel_rfl) (by decide) (fun K hK => ?_)
          refine Kd.R_lit_step k37 _ 37 ?hg (N:=32) ?hd (xs:=([(⟨a1_0,a1_1⟩ : S37)] : List (S37))) (inner:=[.int .u64 a1_0,.int .u64 a1_1]) (ok:=fun _ => True) (okp:=fun _ => True) ?hr ?hp (fun _ hk => hk) trivial (Below.refl _ _) (Nat.le_refl _) (by simp) ?_;(case hd => rfl);(case hg => rfl);(case hr => first | (go_simp;done) | (go_simp;rfl));(case hp => exact (Reps.c2 (show Kd.M k37 _ _ _ (⟨a1_0,a1_1⟩ : S37) [.int .u64 a1_0,.int .u64 a1_1] from (k37_mkM _ _ _ (⟨a1_0,a1_1⟩ : S37) )) (Reps.none _ _)))
          intro v231 w24 ho25 hb hg_ hnew_
          clear hg_ hnew_
          (first | rw [← Ny230.out] at ho25 | (simp only [Int.reduceToNat] at ho25;rw [← Ny230.out] at ho25))
          have n0_:=Aside0.mk (Kd.R_elder' (by (with_reducible repeat (first | apply Kd.R_alloc | apply Kd.R_drewN | apply Kd.R_drew));exact HO_0.out) (Kd.R_base ho25) hb)
          have n1_:=Aside0.mk (Kd.R_elder' (by (with_reducible repeat (first | apply Kd.R_alloc | apply Kd.R_drewN | apply Kd.R_drew));exact HO229.out) (Kd.R_base ho25) hb)
          have n2_:=Aside0.mk (Kd.R_lower (Kd.R_newB (Kd.R_new' (Kd.R_new' (Kd.R_newM (M:=fun k_ => (P0_ k_ ∨ w.heap.size ≤ k_)) ho25 (by first | exact HK.out.1 | exact (show Kept w _ (fun k_ => P0_ k_) from by repeat (first | (with_reducible first | exact HK.out | apply Kept.alloc | apply Kept.drewN | apply Kept.drew | refine Kept.setCell ?_ (.inr GW222.out) _) | exact HK.out)).1) (fun k_ h_ => .inr h_)) (Kd.R_lt (by (with_reducible repeat (first | apply Kd.R_alloc | apply Kd.R_drewN | apply Kd.R_drew));exact HO_0.out))) (Kd.R_lt (by (with_reducible repeat (first | apply Kd.R_alloc | apply Kd.R_drewN | apply Kd.R_drew));exact HO229.out))) (g:=gb222) (o:=.cells #[.int .u64 a1_0,.int .u64 a1_1] 37 (0,0)) (by (with_reducible repeat (first | refine blk_drewN ?_ _ | refine blk_drew ?_ | refine blk_alloc ?_ _));exact BK222.out)) (below_size (by repeat (first | (with_reducible first | exact HB.out | apply below_alloc | apply pw_below_drewN | apply below_drew1 | refine below_set ?_ GE222.out) | exact HB.out))))
          have n3_:=Aside0.mk (blk_below (g:=gb222) (o:=.cells #[.int .u64 a1_0,.int .u64 a1_1] 37 (0,0)) (by (with_reducible repeat (first | refine blk_drewN ?_ _ | refine blk_drew ?_ | refine blk_alloc ?_ _));exact BK222.out) hb)
          have n4_:=Aside0.mk (Kept.below (S:=(fun k_ => P0_ k_)) (by repeat (first | (with_reducible first | exact HK.out | apply Kept.alloc | apply Kept.drewN | apply Kept.drew | refine Kept.setCell ?_ (.inr GW222.out) _) | exact HK.out)) hb)
          have n5_:=Aside0.mk (below_step (by repeat (first | (with_reducible first | exact HB.out | apply below_alloc | apply pw_below_drewN | apply below_drew1 | refine below_set ?_ GE222.out) | exact HB.out)) hb)
          clear HO_0
          clear HO229
          clear BK222
          clear HK
          clear HB
          have HO_0:=n0_
          have HO229:=n1_
          have HO232:=n2_
          have BK222:=n3_
          have HK:=n4_
          have HB:=n5_
          clear n0_ n1_ n2_ n3_ n4_ n5_
          clear hb ho25
          refine hK.out _ _ ⟨(blk_cell BK222.out 0).trans rfl,(blk_cell BK222.out 1).trans rfl⟩ (fun hHeld => ?_)
          clear hK K
          refine norm_ (a':=?_) ?_ ?_
          rotate_left
          ·show Act.put _ (some 32) _ = _
           simp only [Act.put,List.setIfInBounds_toArray,List.set_cons_zero,List.set_cons_succ,i64_w,i32_w]
           rfl
          exact norm_ (by simp only [putAll,Act.put,List.setIfInBounds_toArray,List.set_cons_zero,List.set_cons_succ]) (hCont (v225,v228,v231) _ ⟨hHeld,(by (with_reducible repeat (first | apply Kd.R_alloc | apply Kd.R_drewN | apply Kd.R_drew));exact Kd.R_mono HO229.out (fun _ hk => ⟨hk.1.1,⟨hk.2,⟨hk.1.2.1,hk.1.2.2⟩⟩⟩)),(by (with_reducible repeat (first | apply Kd.R_alloc | apply Kd.R_drewN | apply Kd.R_drew));exact Kd.R_mono HO232.out (fun _ hk => ⟨hk.1.1.1.1,⟨hk.1.2,⟨hk.1.1.2,hk.2⟩⟩⟩)),(by (with_reducible repeat (first | apply Kd.R_alloc | apply Kd.R_drewN | apply Kd.R_drew));exact Kd.R_mono HO_0.out (fun _ hk => ⟨hk.1.1.1,⟨hk.1.2,⟨hk.2,hk.1.1.2⟩⟩⟩)),(by (with_reducible repeat (first | refine blk_drewN ?_ _ | refine blk_drew ?_ | refine blk_alloc ?_ _));exact BK222.out),(by repeat (first | (with_reducible first | exact HK.out | apply Kept.alloc | apply Kept.drewN | apply Kept.drew | refine Kept.setCell ?_ (.inr GW222.out) _) | exact HK.out)),(by repeat (first | (with_reducible first | exact HB.out | apply below_alloc | apply pw_below_drewN | apply below_drew1 | refine below_set ?_ GE222.out) | exact HB.out))⟩)
         ·skip
          refine Kd.R_lit_step k37 _ 37 ?hg (N:=32) ?hd (xs:=([(⟨a1_0,a1_1⟩ : S37)] : List (S37))) (inner:=[.int .u64 a1_0,.int .u64 a1_1]) (ok:=fun _ => True) (okp:=fun _ => True) ?hr ?hp (fun _ hk => hk) trivial (Below.refl _ _) (Nat.le_refl _) (by simp) ?_;(case hd => rfl);(case hg => rfl);(case hr => first | (go_simp;done) | (go_simp;rfl));(case hp => exact (Reps.c2 (show Kd.M k37 _ _ _ (⟨a1_0,a1_1⟩ : S37) [.int .u64 a1_0,.int .u64 a1_1] from (k37_mkM _ _ _ (⟨a1_0,a1_1⟩ : S37) )) (Reps.none _ _)))
          intro v231 w23 ho24 hb hg_ hnew_
          clear hg_ hnew_
          (first | rw [← Ny230.out] at ho24 | (simp only [Int.reduceToNat] at ho24;rw [← Ny230.out] at ho24))
          have n0_:=Aside0.mk (Kd.R_elder' (by (with_reducible repeat (first | apply Kd.R_alloc | apply Kd.R_drewN | apply Kd.R_drew));exact HO_0.out) (Kd.R_base ho24) hb)
          have n1_:=Aside0.mk (Kd.R_elder' (by (with_reducible repeat (first | apply Kd.R_alloc | apply Kd.R_drewN | apply Kd.R_drew));exact HO226.out) (Kd.R_base ho24) hb)
          have n2_:=Aside0.mk (Kd.R_lower (Kd.R_newB (Kd.R_new' (Kd.R_new' (Kd.R_newM (M:=fun k_ => (P0_ k_ ∨ w.heap.size ≤ k_)) ho24 (by first | exact HK.out.1 | exact (show Kept w _ (fun k_ => P0_ k_) from by repeat (first | (with_reducible first | exact HK.out | apply Kept.alloc | apply Kept.drewN | apply Kept.drew | refine Kept.setCell ?_ (.inr GW222.out) _) | exact HK.out)).1) (fun k_ h_ => .inr h_)) (Kd.R_lt (by (with_reducible repeat (first | apply Kd.R_alloc | apply Kd.R_drewN | apply Kd.R_drew));exact HO_0.out))) (Kd.R_lt (by (with_reducible repeat (first | apply Kd.R_alloc | apply Kd.R_drewN | apply Kd.R_drew));exact HO226.out))) (g:=gb222) (o:=.cells #[.int .u64 a1_0,.int .u64 a1_1] 37 (0,0)) (by (with_reducible repeat (first | refine blk_drewN ?_ _ | refine blk_drew ?_ | refine blk_alloc ?_ _));exact BK222.out)) (below_size (by repeat (first | (with_reducible first | exact HB.out | apply below_alloc | apply pw_below_drewN | apply below_drew1 | refine below_set ?_ GE222.out) | exact HB.out))))
          have n3_:=Aside0.mk (blk_below (g:=gb222) (o:=.cells #[.int .u64 a1_0,.int .u64 a1_1] 37 (0,0)) (by (with_reducible repeat (first | refine blk_drewN ?_ _ | refine blk_drew ?_ | refine blk_alloc ?_ _));exact BK222.out) hb)
          have n4_:=Aside0.mk (Kept.below (S:=(fun k_ => P0_ k_)) (by repeat (first | (with_reducible first | exact HK.out | apply Kept.alloc | apply Kept.drewN | apply Kept.drew | refine Kept.setCell ?_ (.inr GW222.out) _) | exact HK.out)) hb)
          have n5_:=Aside0.mk (below_step (by repeat (first | (with_reducible first | exact HB.out | apply below_alloc | apply pw_below_drewN | apply below_drew1 | refine below_set ?_ GE222.out) | exact HB.out)) hb)
          clear HO_0
          clear HO226
          clear BK222
          clear HK
          clear HB
          have HO_0:=n0_
          have HO226:=n1_
          have HO232:=n2_
          have BK222:=n3_
          have HK:=n4_
          have HB:=n5_
          clear n0_ n1_ n2_ n3_ n4_ n5_
          clear hb ho24
          refine hK.out _ _ ⟨(blk_cell BK222.out 0).trans rfl,(blk_cell BK222.out 1).trans rfl⟩ (fun hHeld => ?_)
          clear hK K
          refine norm_ (a':=?_) ?_ ?_
          rotate_left
          ·show Act.put _ (some 32) _ = _
           simp only [Act.put,List.setIfInBounds_toArray,List.set_cons_zero,List.set_cons_succ,i64_w,i32_w]
           rfl
          refine one_ (i:=2) (N:=some 30) #[true,true,true,true,true,false,false] rfl rfl (by kernel_rfl) (by decide) (fun K hK => ?_)
          refine Kd.R_append_rows_step k37 (w0:=w0) w0.heap.size (by rfl) (.tmp 28) (.tmp 29) 25 37 (.agg #[(.int .u64 0),(.int .u64 0)]) 16 rfl Try.underlying25 info37 rfl (by decide) (by omega) v225 y224 l0 _ _ _ (fun k_ => (P0_ k_ ∨ w.heap.size ≤ k_) ∧ some k_ ≠ (.slice Ao9 l0.length co9 : Value).ownBlock ∧ some k_ ≠ (v231 : Value).ownBlock ∧ k_ ≠ gb222) (fun _ => False) rfl rfl ?aO ?aR (fun _ _ h => h) (fun _ h => h.elim) ?aF ?aB ?aS ?aL ?_
          (case aR => repeat (first | exact (Kd.R_reads' HO_0.out).2.2 | (with_reducible refine Kd.C_alloc ?_ _) | (with_reducible refine Kd.C_drewN ?_ _) | (with_reducible refine Kd.C_drew ?_)))
          (case aB => exact (by repeat (first | (with_reducible first | exact HB.out | apply below_alloc | apply pw_below_drewN | apply below_drew1 | refine below_set ?_ GE222.out) | exact HB.out)))
          (case aF => exact (fun k_ hk => ⟨(.inr (Nat.le_trans (by first | exact HK.out.1 | exact (show Kept w _ (fun k_ => P0_ k_) from by repeat (first | (with_reducible first | exact HK.out | apply Kept.alloc | apply Kept.drewN | apply Kept.drew | refine Kept.setCell ?_ (.inr GW222.out) _) | exact HK.out)).1) hk)),Kd.fresh' (Kd.R_lt (by (with_reducible repeat (first | apply Kd.R_alloc | apply Kd.R_drewN | apply Kd.R_drew));exact HO_0.out)) k_ hk,Kd.fresh' (Kd.R_lt (by (with_reducible repeat (first | apply Kd.R_alloc | apply Kd.R_drewN | apply Kd.R_drew));exact HO232.out)) k_ hk,Kd.freshB (g:=gb222) (o:=.cells #[.int .u64 a1_0,.int .u64 a1_1] 37 (0,0)) (by (with_reducible repeat (first | refine blk_drewN ?_ _ | refine blk_drew ?_ | refine blk_alloc ?_ _));exact BK222.out) k_ hk⟩))
          (case aO => exact (by (with_reducible repeat (first | apply Kd.R_alloc | apply Kd.R_drewN | apply Kd.R_drew));exact Kd.R_mono HO226.out (fun _ hk => ⟨hk.1.1.1.1,⟨hk.1.1.2,⟨hk.2,hk.1.2⟩⟩⟩)))
          (case aS => exact (below_size (by repeat (first | (with_reducible first | exact HB.out | apply below_alloc | apply pw_below_drewN | apply below_drew1 | refine below_set ?_ GE222.out) | exact HB.out))))
          (case aL => have:=LMc18.out;omega)
          intro v228 w25 ho hb hg hat
          rw [← Ny227.out] at ho
          have n0_:=Aside0.mk (Kd.R_after (ok:=(fun k_ => (P0_ k_ ∨ w.heap.size ≤ k_) ∧ some k_ ≠ (v231 : Value).ownBlock ∧ k_ ≠ gb222)) (by (with_reducible repeat (first | apply Kd.R_alloc | apply Kd.R_drewN | apply Kd.R_drew));exact Kd.R_mono HO_0.out (fun _ hk => ⟨⟨hk.1.1.1,⟨hk.2,hk.1.1.2⟩⟩,hk.1.2⟩)) hg hat)
          have n1_:=Aside0.mk (blk_grown (g:=gb222) (o:=.cells #[.int .u64 a1_0,.int .u64 a1_1] 37 (0,0)) (by (with_reducible repeat (first | refine blk_drewN ?_ _ | refine blk_drew ?_ | refine blk_alloc ?_ _));exact BK222.out) hg (Kd.R_away HO226.out (fun _ hk => hk.1.2)))
          have n2_:=Aside0.mk (Kd.R_after (ok:=(fun k_ => (P0_ k_ ∨ w.heap.size ≤ k_) ∧ some k_ ≠ (.slice Ao9 l0.length co9 : Value).ownBlock ∧ k_ ≠ gb222)) (by (with_reducible repeat (first | apply Kd.R_alloc | apply Kd.R_drewN | apply Kd.R_drew));exact Kd.R_mono HO232.out (fun _ hk => ⟨⟨hk.1.1.1.1,⟨hk.1.1.2,hk.2⟩⟩,hk.1.2⟩)) hg hat)
          have n3_:=Aside0.mk (hb)
          have n4_:=Aside0.mk (Kept.of_grown (S:=(fun k_ => P0_ k_)) hg (by repeat (first | (with_reducible first | exact HK.out | apply Kept.alloc | apply Kept.drewN | apply Kept.drew | refine Kept.setCell ?_ (.inr GW222.out) _) | exact HK.out)) (fun k_ e_ => (HO226.out.1 k_ e_).1.1.1.1))
          have n5_:=Aside0.mk (ho)
          clear HO_0
          clear BK222
          clear HO232
          clear HB
          clear HK
          clear HO226
          have HO_0:=n0_
          have BK222:=n1_
          have HO232:=n2_
          have HB:=n3_
          have HK:=n4_
          have HO229:=n5_
          clear n0_ n1_ n2_ n3_ n4_ n5_
          clear ho hb hg hat
          refine hK.out _ _ ⟨(blk_cell BK222.out 0).trans rfl,(blk_cell BK222.out 1).trans rfl⟩ (fun hHeld => ?_)
          clear hK K
          refine norm_ (a':=?_) ?_ ?_
          rotate_left
          ·show Act.put _ (some 30) _ = _
           simp only [Act.put,List.setIfInBounds_toArray,List.set_cons_zero,List.set_cons_succ,i64_w,i32_w]
           rfl
          exact norm_ (by simp only [putAll,Act.put,List.setIfInBounds_toArray,List.set_cons_zero,List.set_cons_succ]) (hCont (v225,v228,v231) _ ⟨hHeld,(by (with_reducible repeat (first | apply Kd.R_alloc | apply Kd.R_drewN | apply Kd.R_drew));exact Kd.R_mono HO229.out (fun _ hk => ⟨hk.1,⟨hk.2.2.1,⟨hk.2.1,hk.2.2.2⟩⟩⟩)),(by (with_reducible repeat (first | apply Kd.R_alloc | apply Kd.R_drewN | apply Kd.R_drew));exact Kd.R_mono HO232.out (fun _ hk => ⟨hk.1.1,⟨hk.2,⟨hk.1.2.1,hk.1.2.2⟩⟩⟩)),(by (with_reducible repeat (first | apply Kd.R_alloc | apply Kd.R_drewN | apply Kd.R_drew));exact Kd.R_mono HO_0.out (fun _ hk => ⟨hk.1.1,⟨hk.2,⟨hk.1.2.1,hk.1.2.2⟩⟩⟩)),(by (with_reducible repeat (first | refine blk_drewN ?_ _ | refine blk_drew ?_ | refine blk_alloc ?_ _));exact BK222.out),(by repeat (first | (with_reducible first | exact HK.out | apply Kept.alloc | apply Kept.drewN | apply Kept.drew | refine Kept.setCell ?_ (.inr GW222.out) _) | exact HK.out)),(by repeat (first | (with_reducible first | exact HB.out | apply below_alloc | apply pw_below_drewN | apply below_drew1 | refine below_set ?_ GE222.out) | exact HB.out))⟩)
        ·skip
         refine Kd.R_lit_step k37 _ 37 ?hg (N:=32) ?hd (xs:=([(⟨a1_0,a1_1⟩ : S37)] : List (S37))) (inner:=[.int .u64 a1_0,.int .u64 a1_1]) (ok:=fun _ => True) (okp:=fun _ => True) ?hr ?hp (fun _ hk => hk) trivial (Below.refl _ _) (Nat.le_refl _) (by simp) ?_;(case hd => rfl);(case hg => rfl);(case hr => first | (go_simp;done) | (go_simp;rfl));(case hp => exact (Reps.c2 (show Kd.M k37 _ _ _ (⟨a1_0,a1_1⟩ : S37) [.int .u64 a1_0,.int .u64 a1_1] from (k37_mkM _ _ _ (⟨a1_0,a1_1⟩ : S37) )) (Reps.none _ _)))
         intro v231 w21 ho22 hb hg_ hnew_
         clear hg_ hnew_
         (first | rw [← Ny230.out] at ho22 | (simp only [Int.reduceToNat] at ho22;rw [← Ny230.out] at ho22))
         have n0_:=Aside0.mk (Kd.R_elder' (by (with_reducible repeat (first | apply Kd.R_alloc | apply Kd.R_drewN | apply Kd.R_drew));exact HO_0.out) (Kd.R_base ho22) hb)
         have n1_:=Aside0.mk (Kd.R_lower (Kd.R_newB (Kd.R_new' (Kd.R_newM (M:=fun k_ => (P0_ k_ ∨ w.heap.size ≤ k_)) ho22 (by first | exact HK.out.1 | exact (show Kept w _ (fun k_ => P0_ k_) from by repeat (first | (with_reducible first | exact HK.out | apply Kept.alloc | apply Kept.drewN | apply Kept.drew | refine Kept.setCell ?_ (.inr GW222.out) _) | exact HK.out)).1) (fun k_ h_ => .inr h_)) (Kd.R_lt (by (with_reducible repeat (first | apply Kd.R_alloc | apply Kd.R_drewN | apply Kd.R_drew));exact HO_0.out))) (g:=gb222) (o:=.cells #[.int .u64 a1_0,.int .u64 a1_1] 37 (0,0)) (by (with_reducible repeat (first | refine blk_drewN ?_ _ | refine blk_drew ?_ | refine blk_alloc ?_ _));exact BK222.out)) (below_size (by repeat (first | (with_reducible first | exact HB.out | apply below_alloc | apply pw_below_drewN | apply below_drew1 | refine below_set ?_ GE222.out) | exact HB.out))))
         have n2_:=Aside0.mk (blk_below (g:=gb222) (o:=.cells #[.int .u64 a1_0,.int .u64 a1_1] 37 (0,0)) (by (with_reducible repeat (first | refine blk_drewN ?_ _ | refine blk_drew ?_ | refine blk_alloc ?_ _));exact BK222.out) hb)
         have n3_:=Aside0.mk (Kept.below (S:=(fun k_ => P0_ k_)) (by repeat (first | (with_reducible first | exact HK.out | apply Kept.alloc | apply Kept.drewN | apply Kept.drew | refine Kept.setCell ?_ (.inr GW222.out) _) | exact HK.out)) hb)
         have n4_:=Aside0.mk (below_step (by repeat (first | (with_reducible first | exact HB.out | apply below_alloc | apply pw_below_drewN | apply below_drew1 | refine below_set ?_ GE222.out) | exact HB.out)) hb)
         clear HO_0
         clear BK222
         clear HK
         clear HB
         have HO_0:=n0_
         have HO232:=n1_
         have BK222:=n2_
         have HK:=n3_
         have HB:=n4_
         clear n0_ n1_ n2_ n3_ n4_
         clear hb ho22
         refine hK.out _ _ ⟨(blk_cell BK222.out 0).trans rfl,(blk_cell BK222.out 1).trans rfl⟩ (fun hHeld => ?_)
         clear hK K
         refine norm_ (a':=?_) ?_ ?_
         rotate_left
         ·show Act.put _ (some 32) _ = _
          simp only [Act.put,List.setIfInBounds_toArray,List.set_cons_zero,List.set_cons_succ,i64_w,i32_w]
          rfl
         refine one_ (i:=0) (N:=some 28) #[true,true,false,true,true,false,false] rfl rfl (by kernel_rfl) (by decide) (fun K hK => ?_)
         refine Kd.R_lit_step k37 _ 37 ?hg (N:=28) ?hd (xs:=([] : List (S37))) (inner:=[]) (ok:=fun _ => True) (okp:=fun _ => True) ?hr ?hp (fun _ hk => hk) trivial (Below.refl _ _) (Nat.le_refl _) (by simp) ?_;(case hd => rfl);(case hg => rfl);(case hr => first | (go_simp;done) | (go_simp;rfl));(case hp => exact (Reps.none _ _))
         intro v225 w23 ho24 hb hg_ hnew_
         clear hg_ hnew_
         (first | rw [← Ny224.out] at ho24 | (simp only [Int.reduceToNat] at ho24;rw [← Ny224.out] at ho24))
         have n0_:=Aside0.mk (Kd.R_elder' (by (with_reducible repeat (first | apply Kd.R_alloc | apply Kd.R_drewN | apply Kd.R_drew));exact HO_0.out) (Kd.R_base ho24) hb)
         have n1_:=Aside0.mk (Kd.R_elder' (by (with_reducible repeat (first | apply Kd.R_alloc | apply Kd.R_drewN | apply Kd.R_drew));exact HO232.out) (Kd.R_base ho24) hb)
         have n2_:=Aside0.mk (Kd.R_lower (Kd.R_newB (Kd.R_new' (Kd.R_new' (Kd.R_newM (M:=fun k_ => (P0_ k_ ∨ w.heap.size ≤ k_)) ho24 (by first | exact HK.out.1 | exact (show Kept w _ (fun k_ => P0_ k_) from by repeat (first | (with_reducible first | exact HK.out | apply Kept.alloc | apply Kept.drewN | apply Kept.drew | refine Kept.setCell ?_ (.inr GW222.out) _) | exact HK.out)).1) (fun k_ h_ => .inr h_)) (Kd.R_lt (by (with_reducible repeat (first | apply Kd.R_alloc | apply Kd.R_drewN | apply Kd.R_drew));exact HO_0.out))) (Kd.R_lt (by (with_reducible repeat (first | apply Kd.R_alloc | apply Kd.R_drewN | apply Kd.R_drew));exact HO232.out))) (g:=gb222) (o:=.cells #[.int .u64 a1_0,.int .u64 a1_1] 37 (0,0)) (by (with_reducible repeat (first | refine blk_drewN ?_ _ | refine blk_drew ?_ | refine blk_alloc ?_ _));exact BK222.out)) (below_size (by repeat (first | (with_reducible first | exact HB.out | apply below_alloc | apply pw_below_drewN | apply below_drew1 | refine below_set ?_ GE222.out) | exact HB.out))))
         have n3_:=Aside0.mk (blk_below (g:=gb222) (o:=.cells #[.int .u64 a1_0,.int .u64 a1_1] 37 (0,0)) (by (with_reducible repeat (first | refine blk_drewN ?_ _ | refine blk_drew ?_ | refine blk_alloc ?_ _));exact BK222.out) hb)
         have n4_:=Aside0.mk (Kept.below (S:=(fun k_ => P0_ k_)) (by repeat (first | (with_reducible first | exact HK.out | apply Kept.alloc | apply Kept.drewN | apply Kept.drew | refine Kept.setCell ?_ (.inr GW222.out) _) | exact HK.out)) hb)
         have n5_:=Aside0.mk (below_step (by repeat (first | (with_reducible first | exact HB.out | apply below_alloc | apply pw_below_drewN | apply below_drew1 | refine below_set ?_ GE222.out) | exact HB.out)) hb)
         clear HO_0
         clear HO232
         clear BK222
         clear HK
         clear HB
         have HO_0:=n0_
         have HO232:=n1_
         have HO226:=n2_
         have BK222:=n3_
         have HK:=n4_
         have HB:=n5_
         clear n0_ n1_ n2_ n3_ n4_ n5_
         clear hb ho24
         refine hK.out _ _ ⟨(blk_cell BK222.out 0).trans rfl,(blk_cell BK222.out 1).trans rfl⟩ (fun hHeld => ?_)
         clear hK K
         refine norm_ (a':=?_) ?_ ?_
         rotate_left
         ·show Act.put _ (some 28) _ = _
          simp only [Act.put,List.setIfInBounds_toArray,List.set_cons_zero,List.set_cons_succ,i64_w,i32_w]
          rfl
         refine one_ (i:=2) (N:=some 30) #[true,true,true,true,true,false,false] rfl rfl (by kernel_rfl) (by decide) (fun K hK => ?_)
         refine Kd.R_append_rows_step k37 (w0:=w0) w0.heap.size (by rfl) (.tmp 28) (.tmp 29) 25 37 (.agg #[(.int .u64 0),(.int .u64 0)]) 16 rfl Try.underlying25 info37 rfl (by decide) (by omega) v225 y224 l0 _ _ _ (fun k_ => (P0_ k_ ∨ w.heap.size ≤ k_) ∧ some k_ ≠ (.slice Ao9 l0.length co9 : Value).ownBlock ∧ some k_ ≠ (v231 : Value).ownBlock ∧ k_ ≠ gb222) (fun _ => False) rfl rfl ?aO ?aR (fun _ _ h => h) (fun _ h => h.elim) ?aF ?aB ?aS ?aL ?_
         (case aR => repeat (first | exact (Kd.R_reads' HO_0.out).2.2 | (with_reducible refine Kd.C_alloc ?_ _) | (with_reducible refine Kd.C_drewN ?_ _) | (with_reducible refine Kd.C_drew ?_)))
         (case aB => exact (by repeat (first | (with_reducible first | exact HB.out | apply below_alloc | apply pw_below_drewN | apply below_drew1 | refine below_set ?_ GE222.out) | exact HB.out)))
         (case aF => exact (fun k_ hk => ⟨(.inr (Nat.le_trans (by first | exact HK.out.1 | exact (show Kept w _ (fun k_ => P0_ k_) from by repeat (first | (with_reducible first | exact HK.out | apply Kept.alloc | apply Kept.drewN | apply Kept.drew | refine Kept.setCell ?_ (.inr GW222.out) _) | exact HK.out)).1) hk)),Kd.fresh' (Kd.R_lt (by (with_reducible repeat (first | apply Kd.R_alloc | apply Kd.R_drewN | apply Kd.R_drew));exact HO_0.out)) k_ hk,Kd.fresh' (Kd.R_lt (by (with_reducible repeat (first | apply Kd.R_alloc | apply Kd.R_drewN | apply Kd.R_drew));exact HO232.out)) k_ hk,Kd.freshB (g:=gb222) (o:=.cells #[.int .u64 a1_0,.int .u64 a1_1] 37 (0,0)) (by (with_reducible repeat (first | refine blk_drewN ?_ _ | refine blk_drew ?_ | refine blk_alloc ?_ _));exact BK222.out) k_ hk⟩))
         (case aO => exact (by (with_reducible repeat (first | apply Kd.R_alloc | apply Kd.R_drewN | apply Kd.R_drew));exact Kd.R_mono HO226.out (fun _ hk => ⟨hk.1.1.1.1,⟨hk.1.1.2,⟨hk.1.2,hk.2⟩⟩⟩)))
         (case aS => exact (below_size (by repeat (first | (with_reducible first | exact HB.out | apply below_alloc | apply pw_below_drewN | apply below_drew1 | refine below_set ?_ GE222.out) | exact HB.out))))
         (case aL => have:=LMc18.out;omega)
         intro v228 w25 ho hb hg hat
         rw [← Ny227.out] at ho
         have n0_:=Aside0.mk (Kd.R_after (ok:=(fun k_ => (P0_ k_ ∨ w.heap.size ≤ k_) ∧ some k_ ≠ (v231 : Value).ownBlock ∧ k_ ≠ gb222)) (by (with_reducible repeat (first | apply Kd.R_alloc | apply Kd.R_drewN | apply Kd.R_drew));exact Kd.R_mono HO_0.out (fun _ hk => ⟨⟨hk.1.1.1,⟨hk.1.2,hk.1.1.2⟩⟩,hk.2⟩)) hg hat)
         have n1_:=Aside0.mk (blk_grown (g:=gb222) (o:=.cells #[.int .u64 a1_0,.int .u64 a1_1] 37 (0,0)) (by (with_reducible repeat (first | refine blk_drewN ?_ _ | refine blk_drew ?_ | refine blk_alloc ?_ _));exact BK222.out) hg (Kd.R_away HO226.out (fun _ hk => hk.2)))
         have n2_:=Aside0.mk (Kd.R_after (ok:=(fun k_ => (P0_ k_ ∨ w.heap.size ≤ k_) ∧ some k_ ≠ (.slice Ao9 l0.length co9 : Value).ownBlock ∧ k_ ≠ gb222)) (by (with_reducible repeat (first | apply Kd.R_alloc | apply Kd.R_drewN | apply Kd.R_drew));exact Kd.R_mono HO232.out (fun _ hk => ⟨⟨hk.1.1.1.1,⟨hk.1.1.2,hk.1.2⟩⟩,hk.2⟩)) hg hat)
         have n3_:=Aside0.mk (hb)
         have n4_:=Aside0.mk (Kept.of_grown (S:=(fun k_ => P0_ k_)) hg (by repeat (first | (with_reducible first | exact HK.out | apply Kept.alloc | apply Kept.drewN | apply Kept.drew | refine Kept.setCell ?_ (.inr GW222.out) _) | exact HK.out)) (fun k_ e_ => (HO226.out.1 k_ e_).1.1.1.1))
         have n5_:=Aside0.mk (ho)
         clear HO_0
         clear BK222
         clear HO232
         clear HB
         clear HK
         clear HO226
         have HO_0:=n0_
         have BK222:=n1_
         have HO232:=n2_
         have HB:=n3_
         have HK:=n4_
         have HO229:=n5_
         clear n0_ n1_ n2_ n3_ n4_ n5_
         clear ho hb hg hat
         refine hK.out _ _ ⟨(blk_cell BK222.out 0).trans rfl,(blk_cell BK222.out 1).trans rfl⟩ (fun hHeld => ?_)
         clear hK K
         refine norm_ (a':=?_) ?_ ?_
         rotate_left
         ·show Act.put _ (some 30) _ = _
          simp only [Act.put,List.setIfInBounds_toArray,List.set_cons_zero,List.set_cons_succ,i64_w,i32_w]
          rfl
         exact norm_ (by simp only [putAll,Act.put,List.setIfInBounds_toArray,List.set_cons_zero,List.set_cons_succ]) (hCont (v225,v228,v231) _ ⟨hHeld,(by (with_reducible repeat (first | apply Kd.R_alloc | apply Kd.R_drewN | apply Kd.R_drew));exact Kd.R_mono HO229.out (fun _ hk => ⟨hk.1,⟨hk.2.2.1,⟨hk.2.1,hk.2.2.2⟩⟩⟩)),(by (with_reducible repeat (first | apply Kd.R_alloc | apply Kd.R_drewN | apply Kd.R_drew));exact Kd.R_mono HO232.out (fun _ hk => ⟨hk.1.1,⟨hk.2,⟨hk.1.2.1,hk.1.2.2⟩⟩⟩)),(by (with_reducible repeat (first | apply Kd.R_alloc | apply Kd.R_drewN | apply Kd.R_drew));exact Kd.R_mono HO_0.out (fun _ hk => ⟨hk.1.1,⟨hk.2,⟨hk.1.2.1,hk.1.2.2⟩⟩⟩)),(by (with_reducible repeat (first | refine blk_drewN ?_ _ | refine blk_drew ?_ | refine blk_alloc ?_ _));exact BK222.out),(by repeat (first | (with_reducible first | exact HK.out | apply Kept.alloc | apply Kept.drewN | apply Kept.drew | refine Kept.setCell ?_ (.inr GW222.out) _) | exact HK.out)),(by repeat (first | (with_reducible first | exact HB.out | apply below_alloc | apply pw_below_drewN | apply below_drew1 | refine below_set ?_ GE222.out) | exact HB.out))⟩)
       rintro ⟨v225,v228,v231⟩ w26 ⟨hS_,h0_,h1_,h2_,h3_,h4_,h5_⟩
       have n0_ : Aside0 (Kd.R k37 37 w26 w0.heap.size (fun k_ => (P0_ k_ ∨ w.heap.size ≤ k_) ∧ some k_ ≠ (v231 : Value).ownBlock ∧ some k_ ≠ (.slice Ao9 l0.length co9 : Value).ownBlock ∧ k_ ≠ gb222) v228 y227):=⟨h0_⟩
       have n1_ : Aside0 (Kd.R k37 37 w26 w0.heap.size (fun k_ => (P0_ k_ ∨ w.heap.size ≤ k_) ∧ some k_ ≠ (v228 : Value).ownBlock ∧ some k_ ≠ (.slice Ao9 l0.length co9 : Value).ownBlock ∧ k_ ≠ gb222) v231 y230):=⟨h1_⟩
       have n2_ : Aside0 (Kd.R k37 37 w26 w0.heap.size (fun k_ => (P0_ k_ ∨ w.heap.size ≤ k_) ∧ some k_ ≠ (v228 : Value).ownBlock ∧ some k_ ≠ (v231 : Value).ownBlock ∧ k_ ≠ gb222) (.slice Ao9 l0.length co9) l0):=⟨h2_⟩
       have n3_ : Aside0 (w26.heap[gb222]? = some (.cells #[.int .u64 a1_0,.int .u64 a1_1] 37 (0,0))):=⟨h3_⟩
       have n4_ : Aside0 (Kept w w26 (fun k_ => P0_ k_)):=⟨h4_⟩
       have n5_ : Aside0 (Below w0.heap.size w0 w26):=⟨h5_⟩
       clear HO_0
       clear BK222
       clear HK
       clear HB
       clear h0_ h1_ h2_ h3_ h4_ h5_
       have HO229:=n0_
       have HO232:=n1_
       have HO_0:=n2_
       have BK222:=n3_
       have HK:=n4_
       have HB:=n5_
       clear n0_ n1_ n2_ n3_ n4_ n5_
       have hHeld : w26.cell? ⟨gb222,0,none⟩ = some (.int .u64 a1_0) ∧ w26.cell? ⟨gb222,1,none⟩ = some (.int .u64 a1_1):=hS_
       obtain ⟨Ao28,co28,eo28⟩:=Kd.R_slice HO232.out
       (first | subst eo28 | (injection eo28 with f1_ f2_ f3_;have f4_:=f1_.symm;have f5_:=f3_.symm;clear f1_ f2_ f3_;subst f4_;subst f5_))
       refine norm_ (a':=?_) ?_ ?_
       rotate_left
       ·simp only [putAll,Act.put,List.setIfInBounds_toArray,List.set_cons_zero,List.set_cons_succ]
        rfl
       refine one_ (i:=5) (N:=some 33) #[true,true,true,true,true,true,false] rfl rfl (by kernel_rfl) (by decide) (fun K hK => ?_)
       refine Kd.R_append_rows_step k37 (w0:=w0) w0.heap.size (by rfl) (.tmp 30) (.tmp 32) 25 37 (.agg #[(.int .u64 0),(.int .u64 0)]) 16 rfl Try.underlying25 info37 rfl (by decide) (by omega) v228 y227 y230 _ _ _ (fun k_ => (P0_ k_ ∨ w.heap.size ≤ k_) ∧ some k_ ≠ (.slice Ao9 l0.length co9 : Value).ownBlock ∧ some k_ ≠ (.slice Ao28 y230.length co28 : Value).ownBlock ∧ k_ ≠ gb222) (fun _ => False) rfl rfl ?aO ?aR (fun _ _ h => h) (fun _ h => h.elim) ?aF ?aB ?aS ?aL ?_
       (case aR => repeat (first | exact (Kd.R_reads' HO232.out).2.2 | (with_reducible refine Kd.C_alloc ?_ _) | (with_reducible refine Kd.C_drewN ?_ _) | (with_reducible refine Kd.C_drew ?_)))
       (case aB => exact (by repeat (first | (with_reducible first | exact HB.out | apply below_alloc | apply pw_below_drewN | apply below_drew1 | refine below_set ?_ GE222.out) | exact HB.out)))
       (case aF => exact (fun k_ hk => ⟨(.inr (Nat.le_trans (by first | exact HK.out.1 | exact (show Kept w _ (fun k_ => P0_ k_) from by repeat (first | (with_reducible first | exact HK.out | apply Kept.alloc | apply Kept.drewN | apply Kept.drew | refine Kept.setCell ?_ (.inr GW222.out) _) | exact HK.out)).1) hk)),Kd.fresh' (Kd.R_lt (by (with_reducible repeat (first | apply Kd.R_alloc | apply Kd.R_drewN | apply Kd.R_drew));exact HO_0.out)) k_ hk,Kd.fresh' (Kd.R_lt (by (with_reducible repeat (first | apply Kd.R_alloc | apply Kd.R_drewN | apply Kd.R_drew));exact HO232.out)) k_ hk,Kd.freshB (g:=gb222) (o:=.cells #[.int .u64 a1_0,.int .u64 a1_1] 37 (0,0)) (by (with_reducible repeat (first | refine blk_drewN ?_ _ | refine blk_drew ?_ | refine blk_alloc ?_ _));exact BK222.out) k_ hk⟩))
       (case aO => exact (by (with_reducible repeat (first | apply Kd.R_alloc | apply Kd.R_drewN | apply Kd.R_drew));exact Kd.R_mono HO229.out (fun _ hk => ⟨hk.1,⟨hk.2.2.1,⟨hk.2.1,hk.2.2.2⟩⟩⟩)))
       (case aS => exact (below_size (by repeat (first | (with_reducible first | exact HB.out | apply below_alloc | apply pw_below_drewN | apply below_drew1 | refine below_set ?_ GE222.out) | exact HB.out))))
       (case aL => have:=LMc19.out;omega)
       intro v234 w27 ho hb hg hat
       rw [← Ny233.out] at ho
       have n0_:=Aside0.mk (Kd.R_after (ok:=(fun k_ => (P0_ k_ ∨ w.heap.size ≤ k_) ∧ some k_ ≠ (.slice Ao28 y230.length co28 : Value).ownBlock ∧ k_ ≠ gb222)) (by (with_reducible repeat (first | apply Kd.R_alloc | apply Kd.R_drewN | apply Kd.R_drew));exact Kd.R_mono HO_0.out (fun _ hk => ⟨⟨hk.1,⟨hk.2.2.1,hk.2.2.2⟩⟩,hk.2.1⟩)) hg hat)
       have n1_:=Aside0.mk (blk_grown (g:=gb222) (o:=.cells #[.int .u64 a1_0,.int .u64 a1_1] 37 (0,0)) (by (with_reducible repeat (first | refine blk_drewN ?_ _ | refine blk_drew ?_ | refine blk_alloc ?_ _));exact BK222.out) hg (Kd.R_away HO229.out (fun _ hk => hk.2.2.2)))
       have n2_:=Aside0.mk (Kd.R_after (ok:=(fun k_ => (P0_ k_ ∨ w.heap.size ≤ k_) ∧ some k_ ≠ (.slice Ao9 l0.length co9 : Value).ownBlock ∧ k_ ≠ gb222)) (by (with_reducible repeat (first | apply Kd.R_alloc | apply Kd.R_drewN | apply Kd.R_drew));exact Kd.R_mono HO232.out (fun _ hk => ⟨⟨hk.1,⟨hk.2.2.1,hk.2.2.2⟩⟩,hk.2.1⟩)) hg hat)
       have n3_:=Aside0.mk (hb)
       have n4_:=Aside0.mk (Kept.of_grown (S:=(fun k_ => P0_ k_)) hg (by repeat (first | (with_reducible first | exact HK.out | apply Kept.alloc | apply Kept.drewN | apply Kept.drew | refine Kept.setCell ?_ (.inr GW222.out) _) | exact HK.out)) (fun k_ e_ => (HO229.out.1 k_ e_).1))
       have n5_:=Aside0.mk (ho)
       clear HO_0
       clear BK222
       clear HO232
       clear HB
       clear HK
       clear HO229
       have HO_0:=n0_
       have BK222:=n1_
       have HO232:=n2_
       have HB:=n3_
       have HK:=n4_
       have HO235:=n5_
       clear n0_ n1_ n2_ n3_ n4_ n5_
       clear ho hb hg hat
       refine hK.out _ _ ⟨(blk_cell BK222.out 0).trans rfl,(blk_cell BK222.out 1).trans rfl⟩ (fun hHeld => ?_)
       clear hK K
       refine norm_ (a':=?_) ?_ ?_
       rotate_left
       ·show Act.put _ (some 33) _ = _
        simp only [Act.put,List.setIfInBounds_toArray,List.set_cons_zero,List.set_cons_succ,i64_w,i32_w]
        rfl
       refine pure_ (i:=6) (N:=some 4) (v:=?_) (a':=?_) #[true,true,true,true,true,true,true] rfl rfl (by kernel_rfl) (fun _ _ _ h => h) (Or.inl ⟨by rfl,?_⟩) ?_ ?_
       rotate_left
       ·intro w'
        go_simp
        with_reducible rfl
       rotate_left
       ·simp only [Act.put,List.setIfInBounds_toArray,List.set_cons_zero,List.set_cons_succ,i64_w,i32_w]
        rfl
       refine done_ (by kernel_rfl) ?_
       try go_wp2
       go_ret
       exact ⟨_,by first | rfl | (simp [errW_none,errW_some] <;> rfl) | (simp [*,errW_none,errW_some] <;> rfl),by (with_reducible repeat (first | apply Kd.R_alloc | apply Kd.R_drewN | apply Kd.R_drew));exact Kd.R_mono HO235.out (fun _ hk => hk.1),by repeat (first | (with_reducible first | exact HB.out | apply below_alloc | apply pw_below_drewN | apply below_drew1 | refine below_set ?_ GE222.out) | exact HB.out),by repeat (first | (with_reducible first | exact HK.out | apply Kept.alloc | apply Kept.drewN | apply Kept.drew | refine Kept.setCell ?_ (.inr GW222.out) _) | exact HK.out)⟩
      ·rw [if_neg c19] at H
       exact absurd H (by simp)
     ·rw [if_neg c18] at H
      exact absurd H (by simp)
    ·replace c17:=Bool.eq_false_iff.mpr c17
     subst c17
     have H1 : ((some (([] : List (S37)) : List (S37))).bind fun y236 => (if y236.length + l0.length < 8796093022208 then ((some (y236 ++ l0 : List (S37))).bind fun y239 => (if 0 ≤ (wrap64 ((l0.length : Int) - 1)) then (if (wrap64 ((l0.length : Int) - 1)) < (y239.length : Int) then (if a1_1 > ((rd_T37 y239 (wrap64 ((l0.length : Int) - 1))).f1) then (some (y239.set ((wrap64 ((l0.length : Int) - 1)) : Int).toNat (⟨(rd_T37 y239 (wrap64 ((l0.length : Int) - 1))).f0,a1_1⟩ : S37))) else (some y239)) else (none)) else (none))) else (none))) = some r:=by rw [if_neg (show ¬ (false = true) by decide)] at H;exact H
     clear H
     have H:=H1
     clear H1
     obtain ⟨y236,hy236⟩ : ∃ y_ : List (S37),y_ = (([] : List (S37))):=⟨_,rfl⟩
     replace H : (if y236.length + l0.length < 8796093022208 then ((some (y236 ++ l0 : List (S37))).bind fun y239 => (if 0 ≤ (wrap64 ((l0.length : Int) - 1)) then (if (wrap64 ((l0.length : Int) - 1)) < (y239.length : Int) then (if a1_1 > ((rd_T37 y239 (wrap64 ((l0.length : Int) - 1))).f1) then (some (y239.set ((wrap64 ((l0.length : Int) - 1)) : Int).toNat (⟨(rd_T37 y239 (wrap64 ((l0.length : Int) - 1))).f0,a1_1⟩ : S37))) else (some y239)) else (none)) else (none))) else (none)) = some r:=by first | (rw [hy236];with_reducible exact H) | (have H2_:=(Option.bind_some _ _).symm.trans H;rw [hy236];with_reducible exact H2_) | (have H2_:=(Option.bind_some _ _).symm.trans H;with_reducible exact H2_) | with_reducible exact H | (rw [hy236];exact H) | exact H
     have Ny236:=Aside0.mk hy236
     clear hy236
     by_cases c29 : y236.length + l0.length < 8796093022208
     ·rw [if_pos c29] at H
      have LMc29:=Aside0.mk c29
      clear c29
      obtain ⟨y239,hy239⟩ : ∃ y_ : List (S37),y_ = (y236 ++ l0):=⟨_,rfl⟩
      replace H : (if 0 ≤ (wrap64 ((l0.length : Int) - 1)) then (if (wrap64 ((l0.length : Int) - 1)) < (y239.length : Int) then (if a1_1 > ((rd_T37 y239 (wrap64 ((l0.length : Int) - 1))).f1) then (some (y239.set ((wrap64 ((l0.length : Int) - 1)) : Int).toNat (⟨(rd_T37 y239 (wrap64 ((l0.length : Int) - 1))).f0,a1_1⟩ : S37))) else (some y239)) else (none)) else (none)) = some r:=by first | (rw [hy239];with_reducible exact H) | (have H2_:=(Option.bind_some _ _).symm.trans H;rw [hy239];with_reducible exact H2_) | (have H2_:=(Option.bind_some _ _).symm.trans H;with_reducible exact H2_) | with_reducible exact H | (rw [hy239];exact H) | exact H
      have Ny239:=Aside0.mk hy239
      clear hy239
      obtain ⟨ji30,hji30⟩ : ∃ j_ : Int,(wrap64 ((l0.length : Int) - 1)) = j_:=⟨_,rfl⟩
      replace H : (if 0 ≤ (ji30) then (if (ji30) < (y239.length : Int) then (if a1_1 > ((rd_T37 y239 (ji30)).f1) then (some (y239.set ((ji30) : Int).toNat (⟨(rd_T37 y239 (ji30)).f0,a1_1⟩ : S37))) else (some y239)) else (none)) else (none)) = some r:=by first | (rw [hji30] at H;exact H) | (simp only [hji30] at H ⊢;exact H)
      have hji30w : (IntKind.i64.wrap ((l0.length : Int) - 1)) = ji30:=(i64_w _).trans hji30
      by_cases c31 : 0 ≤ (ji30)
      ·rw [if_pos c31] at H
       have c31b0 : decide (0 ≤ (ji30)) = true:=decide_eq_true c31
       clear c31
       by_cases c32 : (ji30) < (y239.length : Int)
       ·rw [if_pos c32] at H
        have c32b0 : decide ((ji30) < (y239.length : Int)) = true:=decide_eq_true c32
        clear c32
        by_cases c33 : a1_1 > ((rd_T37 y239 (ji30)).f1)
        ·rw [if_pos c33] at H
         have c33b0 : decide (((rd_T37 y239 (ji30)).f1) < a1_1) = true:=decide_eq_true c33
         clear c33
         obtain ⟨y243,hy243⟩ : ∃ y_ : List (S37),y_ = (y239.set ((ji30) : Int).toNat (⟨(rd_T37 y239 (ji30)).f0,a1_1⟩ : S37)):=⟨_,rfl⟩
         replace H : (some y243) = some r:=by first | (rw [hy243];with_reducible exact H) | (have H2_:=(Option.bind_some _ _).symm.trans H;rw [hy243];with_reducible exact H2_) | (have H2_:=(Option.bind_some _ _).symm.trans H;with_reducible exact H2_) | with_reducible exact H | (rw [hy243];exact H) | exact H
         have Ny243:=Aside0.mk hy243
         clear hy243
         obtain rfl:=Option.some.inj H
         try go_wp2_with (first | ((with_reducible refine gate_dst (N:=34) rfl ?_);refine Kd.R_lit k37 _ 37 ?hg (N:=34) ?hd (xs:=([] : List (S37))) (inner:=[]) (ok:=fun _ => True) (okp:=fun _ => True) ?hr ?hp (fun _ hk => hk) trivial (Below.refl _ _) (Nat.le_refl _) (by simp) ?_;(case hd => rfl);(case hg => rfl);(case hr => first | (go_simp;done) | (go_simp;rfl));(case hp => exact (Reps.none _ _));intro v237 w35 ho36 hb hg_ hnew_;clear hg_ hnew_;(first | rw [← Ny236.out] at ho36 | (simp only [Int.reduceToNat] at ho36;rw [← Ny236.out] at ho36));have n0_:=Aside0.mk (Kd.R_elder' (by (with_reducible repeat (first | apply Kd.R_alloc | apply Kd.R_drewN | apply Kd.R_drew));exact HO_0.out) (Kd.R_base ho36) hb);have n1_:=Aside0.mk (Kd.R_lower (Kd.R_newB (Kd.R_new' (Kd.R_newM (M:=fun k_ => (P0_ k_ ∨ w.heap.size ≤ k_)) ho36 (by first | exact HK.out.1 | exact (show Kept w _ (fun k_ => P0_ k_) from by repeat (first | (with_reducible first | exact HK.out | apply Kept.alloc | apply Kept.drewN | apply Kept.drew | refine Kept.setCell ?_ (.inr GW222.out) _) | exact HK.out)).1) (fun k_ h_ => .inr h_)) (Kd.R_lt (by (with_reducible repeat (first | apply Kd.R_alloc | apply Kd.R_drewN | apply Kd.R_drew));exact HO_0.out))) (g:=gb222) (o:=.cells #[.int .u64 a1_0,.int .u64 a1_1] 37 (0,0)) (by (with_reducible repeat (first | refine blk_drewN ?_ _ | refine blk_drew ?_ | refine blk_alloc ?_ _));exact BK222.out)) (below_size (by repeat (first | (with_reducible first | exact HB.out | apply below_alloc | apply pw_below_drewN | apply below_drew1 | refine below_set ?_ GE222.out) | exact HB.out))));have n2_:=Aside0.mk (blk_below (g:=gb222) (o:=.cells #[.int .u64 a1_0,.int .u64 a1_1] 37 (0,0)) (by (with_reducible repeat (first | refine blk_drewN ?_ _ | refine blk_drew ?_ | refine blk_alloc ?_ _));exact BK222.out) hb);have n3_:=Aside0.mk (Kept.below (S:=(fun k_ => P0_ k_)) (by repeat (first | (with_reducible first | exact HK.out | apply Kept.alloc | apply Kept.drewN | apply Kept.drew | refine Kept.setCell ?_ (.inr GW222.out) _) | exact HK.out)) hb);have n4_:=Aside0.mk (below_step (by repeat (first | (with_reducible first | exact HB.out | apply below_alloc | apply pw_below_drewN | apply below_drew1 | refine below_set ?_ GE222.out) | exact HB.out)) hb);clear HO_0;clear BK222;clear HK;clear HB;have HO_0:=n0_;have HO238:=n1_;have BK222:=n2_;have HK:=n3_;have HB:=n4_;clear n0_ n1_ n2_ n3_ n4_;clear hb ho36) | ((with_reducible refine gate_builtin (b:=.append) (xs:=#[.tmp 34,.tmp 35]) rfl ?_);at_builtin;refine Kd.R_append_rows k37 (w0:=w0) w0.heap.size rfl (.tmp 34) (.tmp 35) 25 37 (.agg #[(.int .u64 0),(.int .u64 0)]) 16 rfl Try.underlying25 info37 rfl (by decide) (by omega) v237 y236 l0 _ _ _ (fun k_ => (P0_ k_ ∨ w.heap.size ≤ k_) ∧ some k_ ≠ (.slice Ao9 l0.length co9 : Value).ownBlock ∧ k_ ≠ gb222) (fun _ => False) rfl rfl ?aO ?aR (fun _ _ h => h) (fun _ h => h.elim) ?aF ?aB ?aS ?aL ?_;(case aR => repeat (first | exact (Kd.R_reads' HO_0.out).2.2 | (with_reducible refine Kd.C_alloc ?_ _) | (with_reducible refine Kd.C_drewN ?_ _) | (with_reducible refine Kd.C_drew ?_)));(case aB => exact (by repeat (first | (with_reducible first | exact HB.out | apply below_alloc | apply pw_below_drewN | apply below_drew1 | refine below_set ?_ GE222.out) | exact HB.out)));(case aF => exact (fun k_ hk => ⟨(.inr (Nat.le_trans (by first | exact HK.out.1 | exact (show Kept w _ (fun k_ => P0_ k_) from by repeat (first | (with_reducible first | exact HK.out | apply Kept.alloc | apply Kept.drewN | apply Kept.drew | refine Kept.setCell ?_ (.inr GW222.out) _) | exact HK.out)).1) hk)),Kd.fresh' (Kd.R_lt (by (with_reducible repeat (first | apply Kd.R_alloc | apply Kd.R_drewN | apply Kd.R_drew));exact HO_0.out)) k_ hk,Kd.freshB (g:=gb222) (o:=.cells #[.int .u64 a1_0,.int .u64 a1_1] 37 (0,0)) (by (with_reducible repeat (first | refine blk_drewN ?_ _ | refine blk_drew ?_ | refine blk_alloc ?_ _));exact BK222.out) k_ hk⟩));(case aO => exact (by (with_reducible repeat (first | apply Kd.R_alloc | apply Kd.R_drewN | apply Kd.R_drew));exact Kd.R_mono HO238.out (fun _ hk => ⟨hk.1.1.1,⟨hk.1.2,hk.2⟩⟩)));(case aS => exact (below_size (by repeat (first | (with_reducible first | exact HB.out | apply below_alloc | apply pw_below_drewN | apply below_drew1 | refine below_set ?_ GE222.out) | exact HB.out))));(case aL => have:=LMc29.out;omega);intro v240 w37 ho hb hg hat;rw [← Ny239.out] at ho;have n0_:=Aside0.mk (Kd.R_after (ok:=(fun k_ => (P0_ k_ ∨ w.heap.size ≤ k_) ∧ k_ ≠ gb222)) (by (with_reducible repeat (first | apply Kd.R_alloc | apply Kd.R_drewN | apply Kd.R_drew));exact HO_0.out) hg hat);have n1_:=Aside0.mk (blk_grown (g:=gb222) (o:=.cells #[.int .u64 a1_0,.int .u64 a1_1] 37 (0,0)) (by (with_reducible repeat (first | refine blk_drewN ?_ _ | refine blk_drew ?_ | refine blk_alloc ?_ _));exact BK222.out) hg (Kd.R_away HO238.out (fun _ hk => hk.2)));have n2_:=Aside0.mk (hb);have n3_:=Aside0.mk (Kept.of_grown (S:=(fun k_ => P0_ k_)) hg (by repeat (first | (with_reducible first | exact HK.out | apply Kept.alloc | apply Kept.drewN | apply Kept.drew | refine Kept.setCell ?_ (.inr GW222.out) _) | exact HK.out)) (fun k_ e_ => (HO238.out.1 k_ e_).1.1.1));have n4_:=Aside0.mk (ho);clear HO_0;clear BK222;clear HB;clear HK;clear HO238;have HO_0:=n0_;have BK222:=n1_;have HB:=n2_;have HK:=n3_;have HO241:=n4_;clear n0_ n1_ n2_ n3_ n4_;clear ho hb hg hat))
         have n0_:=Aside0.mk (Kd.R_drew HO_0.out)
         have n1_:=Aside0.mk (Kd.R_drew HO241.out)
         have n2_:=Aside0.mk (blk_drew BK222.out)
         have n3_:=Aside0.mk (Kept.drew HK.out)
         have n4_:=Aside0.mk (below_drew1 HB.out)
         clear HO_0
         clear HO241
         clear BK222
         clear HK
         clear HB
         have HO_0:=n0_
         have HO241:=n1_
         have BK222:=n2_
         have HK:=n3_
         have HB:=n4_
         clear n0_ n1_ n2_ n3_ n4_
         obtain ⟨Ao39,co39,eo39⟩:=Kd.R_slice HO241.out
         (first | subst eo39 | (injection eo39 with f1_ f2_ f3_;have f4_:=f1_.symm;have f5_:=f3_.symm;clear f1_ f2_ f3_;subst f4_;subst f5_))
         have p242 : 0 ≤ ((ji30) : Int):=of_decide_eq_true (by first | (with_reducible assumption) | assumption)
         have q242 : (ji30) < (y239.length : Int):=of_decide_eq_true (by first | (with_reducible assumption) | assumption)
         obtain ⟨ad242,e242,hx242_0,hx242_1⟩:=at_T37 (Kd.R_reads' HO241.out).2.2 (ji30) p242 q242
         cases e242
         replace p242:=eq_true p242
         replace q242:=eq_true q242
         refine start_ (n:=9) (S:=fun w' => w'.cell? ⟨gb222,0,none⟩ = some (.int .u64 a1_0) ∧ w'.cell? ⟨gb222,1,none⟩ = some (.int .u64 a1_1) ∧ w'.cell? (ad242.add (((ji30)).toNat * 2)) = some (.int .u64 ((rd_T37 y239 (ji30)).f0)) ∧ w'.cell? ⟨(ad242.add (((ji30)).toNat * 2)).block,(ad242.add (((ji30)).toNat * 2)).off + 1,none⟩ = some (.int .u64 ((rd_T37 y239 (ji30)).f1))) (ds:=[]) #[false,false,false,false,false,false,false,false,false] (by kernel_rfl) rfl rfl ⟨(blk_cell BK222.out 0).trans rfl,(blk_cell BK222.out 1).trans rfl,hx242_0,hx242_1⟩ (fun hHeld => ?_);refine with_tabW wigwagref07_joined.tab7 wigwagref07_joined.bits7 (fun HT_ HW_ => ?_)
         generalize w37.drew = w38 at HO_0 HO241 BK222 HK HB hx242_0 hx242_1 hHeld ⊢
         refine pure_ (i:=0) (N:=some 37) (v:=?_) (a':=?_) #[true,false,false,false,false,false,false,false,false] rfl rfl (any_of HT_.out (by kernel_rfl)) (fun _ _ _ h => h) (Or.inl ⟨by rfl,?_⟩) ?_ ?_
         rotate_left
         ·intro w'
          go_simp
          with_reducible rfl
         rotate_left
         ·simp only [Act.put,List.setIfInBounds_toArray,List.set_cons_zero,List.set_cons_succ,i64_w,i32_w]
          rfl
         refine pure_ (i:=2) (N:=some 39) (v:=?_) (a':=?_) #[true,false,true,false,false,false,false,false,false] rfl rfl (any_of HT_.out (by kernel_rfl)) (fun _ _ _ h => h) (Or.inl ⟨by rfl,?_⟩) ?_ ?_
         rotate_left
         ·intro w'
          go_simp
          with_reducible rfl
         rotate_left
         ·simp only [Act.put,List.setIfInBounds_toArray,List.set_cons_zero,List.set_cons_succ,i64_w,i32_w]
          rfl
         refine pure_ (i:=3) (N:=some 40) (v:=?_) (a':=?_) #[true,false,true,true,false,false,false,false,false] rfl rfl (any_of HT_.out (by kernel_rfl)) (fun _ _ _ h => h) (Or.inl ⟨by rfl,?_⟩) ?_ ?_
         rotate_left
         ·intro w'
          go_simp
          with_reducible rfl
         rotate_left
         ·simp only [Act.put,List.setIfInBounds_toArray,List.set_cons_zero,List.set_cons_succ,i64_w,i32_w]
          rfl
         refine pure_ (i:=4) (N:=some 41) (v:=?_) (a':=?_) #[true,false,true,true,true,false,false,false,false] rfl rfl (any_of HT_.out (by kernel_rfl)) (fun _ _ _ h => h) (Or.inl ⟨by rfl,?_⟩) ?_ ?_
         rotate_left
         ·intro w'
          go_simp
          with_reducible rfl
         rotate_left
         ·simp only [Act.put,List.setIfInBounds_toArray,List.set_cons_zero,List.set_cons_succ,i64_w,i32_w]
          rfl
         refine pure_ (i:=5) (N:=some 42) (v:=?_) (a':=?_) #[true,false,true,true,true,true,false,false,false] rfl rfl (any_of HT_.out (by kernel_rfl)) (fun _ _ _ h => h) (Or.inl ⟨by rfl,?_⟩) ?_ ?_
         rotate_left
         ·intro w'
          go_simp
          with_reducible rfl
         rotate_left
         ·simp only [Act.put,List.setIfInBounds_toArray,List.set_cons_zero,List.set_cons_succ,i64_w,i32_w]
          rfl
         refine pure_ (i:=6) (N:=some 43) (v:=?_) (a':=?_) #[true,false,true,true,true,true,true,false,false] rfl rfl (any_of HT_.out (by kernel_rfl)) (fun _ _ _ h => h) (Or.inl ⟨by rfl,?_⟩) ?_ ?_
         rotate_left
         ·intro w'
          go_simp
          with_reducible rfl
         rotate_left
         ·simp only [Act.put,List.setIfInBounds_toArray,List.set_cons_zero,List.set_cons_succ,i64_w,i32_w]
          rfl
         refine take_ (i:=1) (N:=some 38) (v:=?_) (a':=?_) #[true,true,true,true,true,true,true,false,false] rfl rfl (take_ofW HT_.out HW_.out (by kernel_rfl)) (fun _ _ _ h => h) (Or.inl ⟨by rfl,?_⟩) hHeld ?_ ?_
         rotate_left
         ·rintro w' ⟨s0,s1,s2,s3⟩
          go_simp
          with_reducible rfl
         rotate_left
         ·simp only [Act.put,List.setIfInBounds_toArray,List.set_cons_zero,List.set_cons_succ,i64_w,i32_w]
          rfl
         refine take_ (i:=7) (N:=some 44) (v:=?_) (a':=?_) #[true,true,true,true,true,true,true,true,false] rfl rfl (take_ofW HT_.out HW_.out (by kernel_rfl)) (fun _ _ _ h => h) (Or.inl ⟨by rfl,?_⟩) hHeld ?_ ?_
         rotate_left
         ·rintro w' ⟨s0,s1,s2,s3⟩
          go_simp
          with_reducible rfl
         rotate_left
         ·simp only [Act.put,List.setIfInBounds_toArray,List.set_cons_zero,List.set_cons_succ,i64_w,i32_w]
          rfl
         refine pure_ (i:=8) (N:=some 45) (v:=?_) (a':=?_) #[true,true,true,true,true,true,true,true,true] rfl rfl (any_of HT_.out (by kernel_rfl)) (fun _ _ _ h => h) (Or.inl ⟨by rfl,?_⟩) ?_ ?_
         rotate_left
         ·intro w'
          go_simp
          with_reducible rfl
         rotate_left
         ·simp only [Act.put,List.setIfInBounds_toArray,List.set_cons_zero,List.set_cons_succ,i64_w,i32_w]
          rfl
         refine done_ (done_of HT_.out (by kernel_rfl)) ?_
         have hcz40_0 : w38.cell? ⟨gb222,0,none⟩ = some (.int .u64 a1_0):=(blk_cell BK222.out 0).trans rfl
         have hcz40_1 : w38.cell? ⟨gb222,1,none⟩ = some (.int .u64 a1_1):=(blk_cell BK222.out 1).trans rfl
         have hfz40_0:=blk_frozen BK222.out 0
         have hfz40_1:=blk_frozen BK222.out 1
         have p34 : 0 ≤ ((ji30) : Int):=of_decide_eq_true (by first | (with_reducible assumption) | assumption)
         have q34 : ((ji30) : Int) < ((y239.length : Int) : Int):=of_decide_eq_true (by first | (with_reducible assumption) | assumption)
         obtain ⟨go34,co34,eo34,gb34,gl34,cl34,HG34⟩:=Kd.R_form HO241.out (by omega)
         (first | cases eo34 | (injection eo34 with ea_ en_ ec_;(first | subst ea_ | (injection ea_ with ea_;subst ea_));subst ec_;clear en_))
         have GB34:=Aside0.mk gb34
         have GG34:=Aside0.mk HG34
         clear gb34 gl34 HG34
         have HMgo34:=Aside0.mk (show (P0_ go34 ∨ w.heap.size ≤ go34) from (HO241.out.1 _ rfl).1)
         (first | simp only [add_plain] at hx242_0 | skip)
         (first | simp only [add_plain] at hx242_1 | skip)
         obtain ⟨ce34,hcl34,hM34,hcc34,hfr34⟩:=Kd.R_elem HO241.out z37 ((ji30) : Int) p34 q34
         obtain rfl:=k37_openM hM34
         have hx34_0 : w38.cell? ⟨go34,((ji30) : Int).toNat * 2,none⟩ = some (.int .u64 ((rd_T37 y239 (ji30)).f0)):=hcc34 0 _ rfl
         have hx34_1 : w38.cell? ⟨go34,((ji30) : Int).toNat * 2 + 1,none⟩ = some (.int .u64 ((rd_T37 y239 (ji30)).f1)):=hcc34 1 _ rfl
         have hf34_0 : w38.frozen? ⟨go34,((ji30) : Int).toNat * 2,none⟩ = false:=hfr34 0
         have hf34_1 : w38.frozen? ⟨go34,((ji30) : Int).toNat * 2 + 1,none⟩ = false:=hfr34 1
         clear hcl34 hcc34 hfr34 hM34
         replace p34:=eq_true p34
         replace q34:=eq_true q34
         have HX41:=Aside0.mk (show Kd.R k37 37 w38 w0.heap.size (fun k_ => (P0_ k_ ∨ w.heap.size ≤ k_) ∧ some k_ ≠ (.slice Ao9 l0.length co9 : Value).ownBlock ∧ k_ ≠ gb222) (.slice (some ⟨go34,0,none⟩) y239.length co39) y239 from (by (with_reducible repeat (first | apply Kd.R_alloc | apply Kd.R_drewN | apply Kd.R_drew));exact HO241.out))
         obtain ⟨ce41,hcl41,hM41,hcc41,hfr41⟩:=Kd.R_elem HX41.out z37 ((ji30) : Int) (of_decide_eq_true (by first | (with_reducible assumption) | assumption)) (by have h_ : ((ji30) : Int) < ((y239.length : Int) : Int):=of_decide_eq_true (by first | (with_reducible assumption) | assumption);first | exact h_ | (have e_:=(Kd.R_reads' HO241.out).1;omega) | simpa using h_)
         obtain rfl:=k37_openM hM41
         have HP41:=Kd.R_seg HX41.out ((ji30) : Int) (of_decide_eq_true (by first | (with_reducible assumption) | assumption)) (by have h_ : ((ji30) : Int) < ((y239.length : Int) : Int):=of_decide_eq_true (by first | (with_reducible assumption) | assumption);first | exact h_ | (have e_:=(Kd.R_reads' HO241.out).1;omega) | simpa using h_) (seg:=[.int .u64 a1_1]) (j:=1) hcl41 hcc41 (show 2 ≤ 2 from by decide) (x':=(⟨(rd_T37 y239 (ji30)).f0,a1_1⟩ : S37)) (k37_mkM _ _ _ (⟨(rd_T37 y239 (ji30)).f0,a1_1⟩ : S37) ) (fun _ hk => hk)
         have hx41_1:=hcc41 1 _ rfl
         (try simp only [show (k37).sz = 2 from rfl,Nat.mul_one,Nat.add_zero] at hx41_1)
         have hf41_1:=hfr41 1
         (try simp only [show (k37).sz = 2 from rfl,Nat.mul_one,Nat.add_zero] at hf41_1)
         clear hcl41 hcc41 hfr41 hM41
         try go_wp2_with (first | ((with_reducible refine gate_store (t:=24) (p:=52) rfl ?_);refine store_event (t:=24) (p:=52) (v:=?vo_w42) (w1:=(w38.setCell ⟨go34,((ji30) : Int).toNat * 2 + 1,none⟩ (.int .u64 a1_1))) ?hg ?ho ?hn ?hr ?_;(case ho => rfl);(case hg => rfl);(case hn => rfl);(case hr => first | (go_simp;done) | (go_simp;rfl));intro w42 hw;have hg : w38.grownBy w42 (some go34):=(by rw [hw];exact HP41.2);have hp_ : Kd.R k37 37 w42 w0.heap.size (fun k_ => (P0_ k_ ∨ w.heap.size ≤ k_) ∧ some k_ ≠ (.slice Ao9 l0.length co9 : Value).ownBlock ∧ k_ ≠ gb222) (.slice (some ⟨go34,0,none⟩) y239.length co39) y243:=(by rw [hw,Ny243.out];exact HP41.1);clear HP41;have n0_:=Aside0.mk (Kd.R_after (v:=(.slice (some ⟨go34,0,none⟩) y239.length co39)) (v1:=(.slice (some ⟨go34,0,none⟩) y239.length co39)) (ok:=(fun k_ => (P0_ k_ ∨ w.heap.size ≤ k_) ∧ k_ ≠ gb222)) (by (with_reducible repeat (first | apply Kd.R_alloc | apply Kd.R_drewN | apply Kd.R_drew));exact HO_0.out) hg (.inl rfl));have n1_:=Aside0.mk (blk_grown (g:=gb222) (o:=.cells #[.int .u64 a1_0,.int .u64 a1_1] 37 (0,0)) (by (with_reducible repeat (first | refine blk_drewN ?_ _ | refine blk_drew ?_ | refine blk_alloc ?_ _));exact BK222.out) hg (Kd.R_away HO241.out (fun _ hk => hk.2.2)));have n2_:=Aside0.mk (hp_);have n3_:=Aside0.mk ((by rw [hw];exact below_set (HB.out) GB34.out : Below w0.heap.size w0 w42));have n4_:=Aside0.mk (Kept.of_grown (S:=(fun k_ => P0_ k_)) hg (by repeat (first | (with_reducible first | exact HK.out | apply Kept.alloc | apply Kept.drewN | apply Kept.drew | refine Kept.setCell ?_ (.inr GW222.out) _) | exact HK.out)) (fun k_ e_ => (HO241.out.1 k_ e_).1));clear HO_0;clear BK222;clear HO241;clear HB;clear HK;have HO_0:=n0_;have BK222:=n1_;have HO241:=n2_;have HB:=n3_;have HK:=n4_;clear n0_ n1_ n2_ n3_ n4_;clear hg hw hp_))
         go_ret
         exact ⟨_,by first | rfl | (simp [errW_none,errW_some] <;> rfl) | (simp only [← hji30];first | rfl | (simp [errW_none,errW_some] <;> rfl)) | (simp [*,errW_none,errW_some] <;> rfl),by (with_reducible repeat (first | apply Kd.R_alloc | apply Kd.R_drewN | apply Kd.R_drew));exact Kd.R_mono HO241.out (fun _ hk => hk.1),by repeat (first | (with_reducible first | exact HB.out | apply below_alloc | apply pw_below_drewN | apply below_drew1 | refine below_set ?_ GE222.out) | exact HB.out),by repeat (first | (with_reducible first | exact HK.out | apply Kept.alloc | apply Kept.drewN | apply Kept.drew | refine Kept.setCell ?_ (.inr GW222.out) _) | exact HK.out)⟩
        ·rw [if_neg c33] at H
         have c33b0 : decide (((rd_T37 y239 (ji30)).f1) < a1_1) = false:=decide_eq_false c33
         clear c33
         obtain rfl:=Option.some.inj H
         try go_wp2_with (first | ((with_reducible refine gate_dst (N:=34) rfl ?_);refine Kd.R_lit k37 _ 37 ?hg (N:=34) ?hd (xs:=([] : List (S37))) (inner:=[]) (ok:=fun _ => True) (okp:=fun _ => True) ?hr ?hp (fun _ hk => hk) trivial (Below.refl _ _) (Nat.le_refl _) (by simp) ?_;(case hd => rfl);(case hg => rfl);(case hr => first | (go_simp;done) | (go_simp;rfl));(case hp => exact (Reps.none _ _));intro v237 w43 ho44 hb hg_ hnew_;clear hg_ hnew_;(first | rw [← Ny236.out] at ho44 | (simp only [Int.reduceToNat] at ho44;rw [← Ny236.out] at ho44));have n0_:=Aside0.mk (Kd.R_elder' (by (with_reducible repeat (first | apply Kd.R_alloc | apply Kd.R_drewN | apply Kd.R_drew));exact HO_0.out) (Kd.R_base ho44) hb);have n1_:=Aside0.mk (Kd.R_lower (Kd.R_newB (Kd.R_new' (Kd.R_newM (M:=fun k_ => (P0_ k_ ∨ w.heap.size ≤ k_)) ho44 (by first | exact HK.out.1 | exact (show Kept w _ (fun k_ => P0_ k_) from by repeat (first | (with_reducible first | exact HK.out | apply Kept.alloc | apply Kept.drewN | apply Kept.drew | refine Kept.setCell ?_ (.inr GW222.out) _) | exact HK.out)).1) (fun k_ h_ => .inr h_)) (Kd.R_lt (by (with_reducible repeat (first | apply Kd.R_alloc | apply Kd.R_drewN | apply Kd.R_drew));exact HO_0.out))) (g:=gb222) (o:=.cells #[.int .u64 a1_0,.int .u64 a1_1] 37 (0,0)) (by (with_reducible repeat (first | refine blk_drewN ?_ _ | refine blk_drew ?_ | refine blk_alloc ?_ _));exact BK222.out)) (below_size (by repeat (first | (with_reducible first | exact HB.out | apply below_alloc | apply pw_below_drewN | apply below_drew1 | refine below_set ?_ GE222.out) | exact HB.out))));have n2_:=Aside0.mk (blk_below (g:=gb222) (o:=.cells #[.int .u64 a1_0,.int .u64 a1_1] 37 (0,0)) (by (with_reducible repeat (first | refine blk_drewN ?_ _ | refine blk_drew ?_ | refine blk_alloc ?_ _));exact BK222.out) hb);have n3_:=Aside0.mk (Kept.below (S:=(fun k_ => P0_ k_)) (by repeat (first | (with_reducible first | exact HK.out | apply Kept.alloc | apply Kept.drewN | apply Kept.drew | refine Kept.setCell ?_ (.inr GW222.out) _) | exact HK.out)) hb);have n4_:=Aside0.mk (below_step (by repeat (first | (with_reducible first | exact HB.out | apply below_alloc | apply pw_below_drewN | apply below_drew1 | refine below_set ?_ GE222.out) | exact HB.out)) hb);clear HO_0;clear BK222;clear HK;clear HB;have HO_0:=n0_;have HO238:=n1_;have BK222:=n2_;have HK:=n3_;have HB:=n4_;clear n0_ n1_ n2_ n3_ n4_;clear hb ho44) | ((with_reducible refine gate_builtin (b:=.append) (xs:=#[.tmp 34,.tmp 35]) rfl ?_);at_builtin;refine Kd.R_append_rows k37 (w0:=w0) w0.heap.size rfl (.tmp 34) (.tmp 35) 25 37 (.agg #[(.int .u64 0),(.int .u64 0)]) 16 rfl Try.underlying25 info37 rfl (by decide) (by omega) v237 y236 l0 _ _ _ (fun k_ => (P0_ k_ ∨ w.heap.size ≤ k_) ∧ some k_ ≠ (.slice Ao9 l0.length co9 : Value).ownBlock ∧ k_ ≠ gb222) (fun _ => False) rfl rfl ?aO ?aR (fun _ _ h => h) (fun _ h => h.elim) ?aF ?aB ?aS ?aL ?_;(case aR => repeat (first | exact (Kd.R_reads' HO_0.out).2.2 | (with_reducible refine Kd.C_alloc ?_ _) | (with_reducible refine Kd.C_drewN ?_ _) | (with_reducible refine Kd.C_drew ?_)));(case aB => exact (by repeat (first | (with_reducible first | exact HB.out | apply below_alloc | apply pw_below_drewN | apply below_drew1 | refine below_set ?_ GE222.out) | exact HB.out)));(case aF => exact (fun k_ hk => ⟨(.inr (Nat.le_trans (by first | exact HK.out.1 | exact (show Kept w _ (fun k_ => P0_ k_) from by repeat (first | (with_reducible first | exact HK.out | apply Kept.alloc | apply Kept.drewN | apply Kept.drew | refine Kept.setCell ?_ (.inr GW222.out) _) | exact HK.out)).1) hk)),Kd.fresh' (Kd.R_lt (by (with_reducible repeat (first | apply Kd.R_alloc | apply Kd.R_drewN | apply Kd.R_drew));exact HO_0.out)) k_ hk,Kd.freshB (g:=gb222) (o:=.cells #[.int .u64 a1_0,.int .u64 a1_1] 37 (0,0)) (by (with_reducible repeat (first | refine blk_drewN ?_ _ | refine blk_drew ?_ | refine blk_alloc ?_ _));exact BK222.out) k_ hk⟩));(case aO => exact (by (with_reducible repeat (first | apply Kd.R_alloc | apply Kd.R_drewN | apply Kd.R_drew));exact Kd.R_mono HO238.out (fun _ hk => ⟨hk.1.1.1,⟨hk.1.2,hk.2⟩⟩)));(case aS => exact (below_size (by repeat (first | (with_reducible first | exact HB.out | apply below_alloc | apply pw_below_drewN | apply below_drew1 | refine below_set ?_ GE222.out) | exact HB.out))));(case aL => have:=LMc29.out;omega);intro v240 w45 ho hb hg hat;rw [← Ny239.out] at ho;have n0_:=Aside0.mk (Kd.R_after (ok:=(fun k_ => (P0_ k_ ∨ w.heap.size ≤ k_) ∧ k_ ≠ gb222)) (by (with_reducible repeat (first | apply Kd.R_alloc | apply Kd.R_drewN | apply Kd.R_drew));exact HO_0.out) hg hat);have n1_:=Aside0.mk (blk_grown (g:=gb222) (o:=.cells #[.int .u64 a1_0,.int .u64 a1_1] 37 (0,0)) (by (with_reducible repeat (first | refine blk_drewN ?_ _ | refine blk_drew ?_ | refine blk_alloc ?_ _));exact BK222.out) hg (Kd.R_away HO238.out (fun _ hk => hk.2)));have n2_:=Aside0.mk (hb);have n3_:=Aside0.mk (Kept.of_grown (S:=(fun k_ => P0_ k_)) hg (by repeat (first | (with_reducible first | exact HK.out | apply Kept.alloc | apply Kept.drewN | apply Kept.drew | refine Kept.setCell ?_ (.inr GW222.out) _) | exact HK.out)) (fun k_ e_ => (HO238.out.1 k_ e_).1.1.1));have n4_:=Aside0.mk (ho);clear HO_0;clear BK222;clear HB;clear HK;clear HO238;have HO_0:=n0_;have BK222:=n1_;have HB:=n2_;have HK:=n3_;have HO241:=n4_;clear n0_ n1_ n2_ n3_ n4_;clear ho hb hg hat))
         have n0_:=Aside0.mk (Kd.R_drew HO_0.out)
         have n1_:=Aside0.mk (Kd.R_drew HO241.out)
         have n2_:=Aside0.mk (blk_drew BK222.out)
         have n3_:=Aside0.mk (Kept.drew HK.out)
         have n4_:=Aside0.mk (below_drew1 HB.out)
         clear HO_0
         clear HO241
         clear BK222
         clear HK
         clear HB
         have HO_0:=n0_
         have HO241:=n1_
         have BK222:=n2_
         have HK:=n3_
         have HB:=n4_
         clear n0_ n1_ n2_ n3_ n4_
         obtain ⟨Ao47,co47,eo47⟩:=Kd.R_slice HO241.out
         (first | subst eo47 | (injection eo47 with f1_ f2_ f3_;have f4_:=f1_.symm;have f5_:=f3_.symm;clear f1_ f2_ f3_;subst f4_;subst f5_))
         have p242 : 0 ≤ ((ji30) : Int):=of_decide_eq_true (by first | (with_reducible assumption) | assumption)
         have q242 : (ji30) < (y239.length : Int):=of_decide_eq_true (by first | (with_reducible assumption) | assumption)
         obtain ⟨ad242,e242,hx242_0,hx242_1⟩:=at_T37 (Kd.R_reads' HO241.out).2.2 (ji30) p242 q242
         cases e242
         replace p242:=eq_true p242
         replace q242:=eq_true q242
         refine start_ (n:=9) (S:=fun w' => w'.cell? ⟨gb222,0,none⟩ = some (.int .u64 a1_0) ∧ w'.cell? ⟨gb222,1,none⟩ = some (.int .u64 a1_1) ∧ w'.cell? (ad242.add (((ji30)).toNat * 2)) = some (.int .u64 ((rd_T37 y239 (ji30)).f0)) ∧ w'.cell? ⟨(ad242.add (((ji30)).toNat * 2)).block,(ad242.add (((ji30)).toNat * 2)).off + 1,none⟩ = some (.int .u64 ((rd_T37 y239 (ji30)).f1))) (ds:=[]) #[false,false,false,false,false,false,false,false,false] (by kernel_rfl) rfl rfl ⟨(blk_cell BK222.out 0).trans rfl,(blk_cell BK222.out 1).trans rfl,hx242_0,hx242_1⟩ (fun hHeld => ?_);refine with_tabW wigwagref07_joined.tab7 wigwagref07_joined.bits7 (fun HT_ HW_ => ?_)
         generalize w45.drew = w46 at HO_0 HO241 BK222 HK HB hx242_0 hx242_1 hHeld ⊢
         refine pure_ (i:=0) (N:=some 37) (v:=?_) (a':=?_) #[true,false,false,false,false,false,false,false,false] rfl rfl (any_of HT_.out (by kernel_rfl)) (fun _ _ _ h => h) (Or.inl ⟨by rfl,?_⟩) ?_ ?_
         rotate_left
         ·intro w'
          go_simp
          with_reducible rfl
         rotate_left
         ·simp only [Act.put,List.setIfInBounds_toArray,List.set_cons_zero,List.set_cons_succ,i64_w,i32_w]
          rfl
         refine pure_ (i:=2) (N:=some 39) (v:=?_) (a':=?_) #[true,false,true,false,false,false,false,false,false] rfl rfl (any_of HT_.out (by kernel_rfl)) (fun _ _ _ h => h) (Or.inl ⟨by rfl,?_⟩) ?_ ?_
         rotate_left
         ·intro w'
          go_simp
          with_reducible rfl
         rotate_left
         ·simp only [Act.put,List.setIfInBounds_toArray,List.set_cons_zero,List.set_cons_succ,i64_w,i32_w]
          rfl
         refine pure_ (i:=3) (N:=some 40) (v:=?_) (a':=?_) #[true,false,true,true,false,false,false,false,false] rfl rfl (any_of HT_.out (by kernel_rfl)) (fun _ _ _ h => h) (Or.inl ⟨by rfl,?_⟩) ?_ ?_
         rotate_left
         ·intro w'
          go_simp
          with_reducible rfl
         rotate_left
         ·simp only [Act.put,List.setIfInBounds_toArray,List.set_cons_zero,List.set_cons_succ,i64_w,i32_w]
          rfl
         refine pure_ (i:=4) (N:=some 41) (v:=?_) (a':=?_) #[true,false,true,true,true,false,false,false,false] rfl rfl (any_of HT_.out (by kernel_rfl)) (fun _ _ _ h => h) (Or.inl ⟨by rfl,?_⟩) ?_ ?_
         rotate_left
         ·intro w'
          go_simp
          with_reducible rfl
         rotate_left
         ·simp only [Act.put,List.setIfInBounds_toArray,List.set_cons_zero,List.set_cons_succ,i64_w,i32_w]
          rfl
         refine pure_ (i:=5) (N:=some 42) (v:=?_) (a':=?_) #[true,false,true,true,true,true,false,false,false] rfl rfl (any_of HT_.out (by kernel_rfl)) (fun _ _ _ h => h) (Or.inl ⟨by rfl,?_⟩) ?_ ?_
         rotate_left
         ·intro w'
          go_simp
          with_reducible rfl
         rotate_left
         ·simp only [Act.put,List.setIfInBounds_toArray,List.set_cons_zero,List.set_cons_succ,i64_w,i32_w]
          rfl
         refine pure_ (i:=6) (N:=some 43) (v:=?_) (a':=?_) #[true,false,true,true,true,true,true,false,false] rfl rfl (any_of HT_.out (by kernel_rfl)) (fun _ _ _ h => h) (Or.inl ⟨by rfl,?_⟩) ?_ ?_
         rotate_left
         ·intro w'
          go_simp
          with_reducible rfl
         rotate_left
         ·simp only [Act.put,List.setIfInBounds_toArray,List.set_cons_zero,List.set_cons_succ,i64_w,i32_w]
          rfl
         refine take_ (i:=1) (N:=some 38) (v:=?_) (a':=?_) #[true,true,true,true,true,true,true,false,false] rfl rfl (take_ofW HT_.out HW_.out (by kernel_rfl)) (fun _ _ _ h => h) (Or.inl ⟨by rfl,?_⟩) hHeld ?_ ?_
         rotate_left
         ·rintro w' ⟨s0,s1,s2,s3⟩
          go_simp
          with_reducible rfl
         rotate_left
         ·simp only [Act.put,List.setIfInBounds_toArray,List.set_cons_zero,List.set_cons_succ,i64_w,i32_w]
          rfl
         refine take_ (i:=7) (N:=some 44) (v:=?_) (a':=?_) #[true,true,true,true,true,true,true,true,false] rfl rfl (take_ofW HT_.out HW_.out (by kernel_rfl)) (fun _ _ _ h => h) (Or.inl ⟨by rfl,?_⟩) hHeld ?_ ?_
         rotate_left
         ·rintro w' ⟨s0,s1,s2,s3⟩
          go_simp
          with_reducible rfl
         rotate_left
         ·simp only [Act.put,List.setIfInBounds_toArray,List.set_cons_zero,List.set_cons_succ,i64_w,i32_w]
          rfl
         refine pure_ (i:=8) (N:=some 45) (v:=?_) (a':=?_) #[true,true,true,true,true,true,true,true,true] rfl rfl (any_of HT_.out (by kernel_rfl)) (fun _ _ _ h => h) (Or.inl ⟨by rfl,?_⟩) ?_ ?_
         rotate_left
         ·intro w'
          go_simp
          with_reducible rfl
         rotate_left
         ·simp only [Act.put,List.setIfInBounds_toArray,List.set_cons_zero,List.set_cons_succ,i64_w,i32_w]
          rfl
         refine done_ (done_of HT_.out (by kernel_rfl)) ?_
         try go_wp2
         go_ret
         exact ⟨_,by first | rfl | (simp [errW_none,errW_some] <;> rfl) | (simp only [← hji30];first | rfl | (simp [errW_none,errW_some] <;> rfl)) | (simp [*,errW_none,errW_some] <;> rfl),by (with_reducible repeat (first | apply Kd.R_alloc | apply Kd.R_drewN | apply Kd.R_drew));exact Kd.R_mono HO241.out (fun _ hk => hk.1),by repeat (first | (with_reducible first | exact HB.out | apply below_alloc | apply pw_below_drewN | apply below_drew1 | refine below_set ?_ GE222.out) | exact HB.out),by repeat (first | (with_reducible first | exact HK.out | apply Kept.alloc | apply Kept.drewN | apply Kept.drew | refine Kept.setCell ?_ (.inr GW222.out) _) | exact HK.out)⟩
       ·rw [if_neg c32] at H
        exact absurd H (by simp)
      ·rw [if_neg c31] at H
       exact absurd H (by simp)
     ·rw [if_neg c29] at H
      exact absurd H (by simp)

end Go.Proofs.Ytadhkamocbhbmaa.P
