-- Printed for this claim by xprint.py of this session: contracts of this session's own stand in for what the print does not take
import Derived.Test.YtgaccappklhojaaPx0
import Derived.Test.YtgaccappklhojaaPx20
import Derived.Test.YtgaccappklhojaaPx22
namespace Go.Proofs.Ytgaccappklhojaa.P
open Go.RowKit Go.Proofs.YtgaccappklhojaaW.PrintWords Go.Proofs.YtgaccappklhojaaW.PrintLast Go.Proofs.YtgaccappklhojaaW.PrintMore
attribute [local go_sem] max2_int min2_int max_two min_two max_three min_three max_four min_four   -- for this text's walks alone
set_option linter.unusedVariables false
set_option linter.unusedSimpArgs false

/-! ### wigwagref07_Both: function 22 -/
mutual
def wigwagref07_Both.l0 : Nat → List (S25) → List (S25) → List (S25) → Int → Option ((List (S25)))
 | 0,_,_,_,_ => none
 | k + 1,x0,x1,x5,x6 => if x6 < (x0.length : Int) then (wigwagref07_Both.l1 k x0 x1 x5 x6 0) else (some x5)
def wigwagref07_Both.l1 : Nat → List (S25) → List (S25) → List (S25) → Int → Int → Option ((List (S25)))
 | 0,_,_,_,_,_ => none
 | k + 1,x0,x1,x5,x6,x7 => if x7 < (x1.length : Int) then (if 0 ≤ x6 then (if x6 < (x0.length : Int) then (if 0 ≤ x7 then ((wigwagref07_meet.f ((rd_T25 x0 x6).f0) ((rd_T25 x0 x6).f1) ((rd_T25 x1 x7).f0) ((rd_T25 x1 x7).f1)).bind fun bt418 => ((wigwagref07_joined.f k x5 bt418.1 bt418.2).bind fun t420 => (wigwagref07_Both.l1 k x0 x1 t420 x6 (wrap64 (x7 + 1))))) else (none)) else (none)) else (none)) else (wigwagref07_Both.l0 k x0 x1 x5 (wrap64 (x6 + 1)))
end
def wigwagref07_Both.f (k : Nat) (l0 : List (S25)) (l1 : List (S25)) : Option ((List (S25))):=wigwagref07_Both.l0 k l0 l1 ([] : List (S25)) 0
theorem wigwagref07_Both.mono_l : ∀ k,(∀ y0 y1 y2 y3,LeO (wigwagref07_Both.l0 k y0 y1 y2 y3) (wigwagref07_Both.l0 (k + 1) y0 y1 y2 y3)) ∧ (∀ y0 y1 y2 y3 y4,LeO (wigwagref07_Both.l1 k y0 y1 y2 y3 y4) (wigwagref07_Both.l1 (k + 1) y0 y1 y2 y3 y4))
 | 0 => ⟨fun _ _ _ _ r h => by simp [wigwagref07_Both.l0] at h,fun _ _ _ _ _ r h => by simp [wigwagref07_Both.l1] at h⟩
 | k + 1 => by
  obtain ⟨ih0,ih1⟩:=wigwagref07_Both.mono_l k
  refine ⟨?_,?_⟩
  ·intro y0 y1 y2 y3
   unfold wigwagref07_Both.l0
   repeat' first
   | (with_reducible exact ih0 _ _ _ _)
   | (with_reducible exact ih1 _ _ _ _ _)
   | (with_reducible exact wigwagref07_joined.mono _ _ _ _)
   | (with_reducible exact LeO.refl _)
   | (with_reducible exact LeO.none _)
   | (with_reducible refine LeO.ite ?_ ?_)
   | (with_reducible refine LeO.bind ?_ (fun _ => ?_))
   | exact ih0 _ _ _ _
   | exact ih1 _ _ _ _ _
   | exact wigwagref07_joined.mono _ _ _ _
   | exact LeO.none _
   | refine LeO.ite ?_ ?_
   | refine LeO.bind ?_ (fun _ => ?_)
  ·intro y0 y1 y2 y3 y4
   unfold wigwagref07_Both.l1
   repeat' first
   | (with_reducible exact ih0 _ _ _ _)
   | (with_reducible exact ih1 _ _ _ _ _)
   | (with_reducible exact wigwagref07_joined.mono _ _ _ _)
   | (with_reducible exact LeO.refl _)
   | (with_reducible exact LeO.none _)
   | (with_reducible refine LeO.ite ?_ ?_)
   | (with_reducible refine LeO.bind ?_ (fun _ => ?_))
   | exact ih0 _ _ _ _
   | exact ih1 _ _ _ _ _
   | exact wigwagref07_joined.mono _ _ _ _
   | exact LeO.none _
   | refine LeO.ite ?_ ?_
   | refine LeO.bind ?_ (fun _ => ?_)
theorem wigwagref07_Both.mono : ∀ a0 a1 k,LeO (wigwagref07_Both.f k a0 a1) (wigwagref07_Both.f (k + 1) a0 a1):=by
 intro a0 a1 k
 obtain ⟨ih0,ih1⟩:=wigwagref07_Both.mono_l k
 unfold wigwagref07_Both.f
 repeat' first
   | (with_reducible exact ih0 _ _ _ _)
   | (with_reducible exact ih1 _ _ _ _ _)
   | (with_reducible exact wigwagref07_joined.mono _ _ _ _)
   | (with_reducible exact LeO.refl _)
   | (with_reducible exact LeO.none _)
   | (with_reducible refine LeO.ite ?_ ?_)
   | (with_reducible refine LeO.bind ?_ (fun _ => ?_))
   | exact ih0 _ _ _ _
   | exact ih1 _ _ _ _ _
   | exact wigwagref07_joined.mono _ _ _ _
   | exact LeO.none _
   | refine LeO.ite ?_ ?_
   | refine LeO.bind ?_ (fun _ => ?_)
def wigwagref07_Both.T8 : Bool × List (List Nat × List Nat):=(true,[([],[]),([],[]),([],[]),([1,2],[1,2]),([3],[3]),([],[]),([],[]),([5,6],[5,6]),([7],[7]),([4,8],[4,8]),([0,9,9],[0,9]),([10,10,0,1,2,3,4,5,6,7,8,9,10],[0,10])])
def wigwagref07_Both.B8 : List Nat:=[0,0,0,6,14,0,0,96,224,510,1023,2047]
theorem wigwagref07_Both.tab8 : rtab .any (opsOf Try.f22 8) = wigwagref07_Both.T8:=by kernel_rfl
theorem wigwagref07_Both.bits8 : waitsOk wigwagref07_Both.T8.2 wigwagref07_Both.B8 = true:=by kernel_rfl
set_option maxHeartbeats 8000000 in
set_option maxRecDepth 100000 in
theorem wigwagref07_Both.calls (k : Nat) (A0 : Option Addr) (c0 : Nat) (l0 : List (S25)) (A1 : Option Addr) (c1 : Nat) (l1 : List (S25)) (r : List (S25)) (w : World) (hr0 : Kd.C k25 w A0 l0.length l0) (hc0 : l0.length ≤ c0) (hr1 : Kd.C k25 w A1 l1.length l1) (hc1 : l1.length ≤ c1) (h : wigwagref07_Both.f k l0 l1 = some r) :
  Calls Try.prog 22 #[.slice A0 l0.length c0,.slice A1 l1.length c1] w fun e w' => ∃ v0_ : Value,e = .returned (v0_) ∧ Kd.R k25 25 w' w.heap.size (fun _ => True) v0_ r ∧ Below w.heap.size w w':=by
 have hu25:=Try.underlying25
 have HR0:=Aside0.mk hr0
 have HC0:=Aside0.mk hc0
 clear hr0 hc0
 have HR1:=Aside0.mk hr1
 have HC1:=Aside0.mk hc1
 clear hr1 hc1
 have HB:=Aside0.mk (Below.refl w.heap.size w)
 have H : (wigwagref07_Both.l0 k l0 l1 ([] : List (S25)) 0) = some r:=h
 clear h
 have H':=Aside0.mk H
 clear H
 go_enter Try.func22,Try.ntmps22
 go_wp2
 go_loopg [5,6] k (fun kq v5 v6 w' => ∃ (x5_1 : List (S25)) (x6_1 : Int),v6 = .int .i64 x6_1 ∧ Aside0 (wigwagref07_Both.l0 kq l0 l1 x5_1 x6_1 = some r) ∧ Aside0 (kq ≤ k) ∧ Aside0 (Kd.R k25 25 w' w.heap.size (fun _ => True) v5 x5_1) ∧ Aside0 (Below w.heap.size w w'))
 case atStart => exact ⟨(([] : List (S25))),(0),(by first | rfl | (simp;done) | (simp [*];done)),H',⟨Nat.le_refl _⟩,⟨by first | exact Kd.R_nil _ _ _ _ _ | exact Kd.N_nil _ _ _ _ _ | exact Kd.V_nil _ _ _ _ _ | exact Kd.Q_nil _ _ _ _ _ | exact Kd.S_nil _ _ _ _ _⟩,⟨by repeat (first | (with_reducible first | exact HB.out | apply below_alloc | apply pw_below_drewN | apply below_drew1) | exact HB.out)⟩⟩
 case round =>
  clear H'
  try clear c1
  try clear c2
  try clear p2
  obtain ⟨x5_1,x6_1,rfl,HA,HK1,HO_5,HB⟩:=hrel
  cases gk with
  | zero => exact absurd HA.out (by simp [wigwagref07_Both.l0])
  | succ k1 =>
   have H:=HA.out
   clear HA
   simp only [wigwagref07_Both.l0] at H
   by_cases c3 : x6_1 < (l0.length : Int)
   ·rw [if_pos c3] at H
    have c3b0 : decide (x6_1 < (l0.length : Int)) = true:=decide_eq_true c3
    clear c3
    have H':=Aside0.mk H
    clear H
    go_wp2
    go_loopg [5,7] k1 (fun kq v5 v7 w' => ∃ (x5_2 : List (S25)) (x7_2 : Int),v7 = .int .i64 x7_2 ∧ Aside0 (wigwagref07_Both.l1 kq l0 l1 x5_2 x6_1 x7_2 = some r) ∧ Aside0 (kq ≤ k1) ∧ Aside0 (Kd.R k25 25 w' w.heap.size (fun _ => True) v5 x5_2) ∧ Aside0 (Below w.heap.size w w'))
    case atStart => exact ⟨(x5_1),(0),(by first | rfl | (simp;done) | (simp [*];done)),H',⟨Nat.le_refl _⟩,⟨by (with_reducible repeat (first | apply Kd.R_alloc | apply Kd.R_drewN | apply Kd.R_drew));exact HO_5.out⟩,⟨by repeat (first | (with_reducible first | exact HB.out | apply below_alloc | apply pw_below_drewN | apply below_drew1) | exact HB.out)⟩⟩
    case round =>
     clear H'
     try clear c1
     try clear c2
     try clear p2
     try clear c3
     try clear c3b0
     try clear p2
     obtain ⟨x5_2,x7_2,rfl,HA,HK2,HO_5,HB⟩:=hrel
     cases gk with
     | zero => exact absurd HA.out (by simp [wigwagref07_Both.l1])
     | succ k2 =>
      have H:=HA.out
      clear HA
      simp only [wigwagref07_Both.l1] at H
      by_cases c4 : x7_2 < (l1.length : Int)
      ·rw [if_pos c4] at H
       have c4b0 : decide (x7_2 < (l1.length : Int)) = true:=decide_eq_true c4
       clear c4
       by_cases c5 : 0 ≤ x6_1
       ·rw [if_pos c5] at H
        have c5b0 : decide (0 ≤ x6_1) = true:=decide_eq_true c5
        clear c5
        by_cases c6 : x6_1 < (l0.length : Int)
        ·rw [if_pos c6] at H
         have c6b0 : decide (x6_1 < (l0.length : Int)) = true:=decide_eq_true c6
         clear c6
         by_cases c7 : 0 ≤ x7_2
         ·rw [if_pos c7] at H
          have c7b0 : decide (0 ≤ x7_2) = true:=decide_eq_true c7
          clear c7
          replace H:=Option.bind_eq_some_iff.mp H
          obtain ⟨⟨t418,t419⟩,A80,H⟩:=H
          replace H : ((wigwagref07_joined.f k2 x5_2 t418 t419).bind fun t420 => (wigwagref07_Both.l1 k2 l0 l1 t420 x6_1 (wrap64 (x7_2 + 1)))) = some r:=H
          have A8:=Aside0.mk A80
          clear A80
          replace H:=Option.bind_eq_some_iff.mp H
          obtain ⟨t420,A90,H⟩:=H
          replace H : (wigwagref07_Both.l1 k2 l0 l1 t420 x6_1 (wrap64 (x7_2 + 1))) = some r:=H
          have A9:=Aside0.mk A90
          clear A90
          have H':=Aside0.mk H
          clear H
          try go_wp2
          have n0_:=Aside0.mk (Kd.R_drew HO_5.out)
          have n1_:=Aside0.mk (below_drew1 HB.out)
          clear HO_5
          clear HB
          have HO_5:=n0_
          have HB:=n1_
          clear n0_ n1_
          have p416 : 0 ≤ (x6_1 : Int):=of_decide_eq_true (by first | (with_reducible assumption) | assumption)
          have q416 : x6_1 < (l0.length : Int):=of_decide_eq_true (by first | (with_reducible assumption) | assumption)
          obtain ⟨ad416,e416,hx416_0,hx416_1⟩:=at_T25 HR0.out x6_1 p416 q416
          have hw416_1:=hx416_1
          have hw416_0:=hx416_0
          cases e416
          replace hx416_0:=(HB.out.cell (World.block_lt_of_cell? w _ hx416_0)).trans hx416_0
          replace hx416_1:=(HB.out.cell (World.block_lt_of_cell? w _ hx416_1)).trans hx416_1
          replace p416:=eq_true p416
          replace q416:=eq_true q416
          have p417 : 0 ≤ (x7_2 : Int):=of_decide_eq_true (by first | (with_reducible assumption) | assumption)
          have q417 : x7_2 < (l1.length : Int):=of_decide_eq_true (by first | (with_reducible assumption) | assumption)
          obtain ⟨ad417,e417,hx417_0,hx417_1⟩:=at_T25 HR1.out x7_2 p417 q417
          have hw417_1:=hx417_1
          have hw417_0:=hx417_0
          cases e417
          replace hx417_0:=(HB.out.cell (World.block_lt_of_cell? w _ hx417_0)).trans hx417_0
          replace hx417_1:=(HB.out.cell (World.block_lt_of_cell? w _ hx417_1)).trans hx417_1
          replace p417:=eq_true p417
          replace q417:=eq_true q417
          refine start_ (n:=12) (S:=fun w' => w'.cell? (ad416.add ((x6_1).toNat * 2)) = some (.int .u64 ((rd_T25 l0 x6_1).f0)) ∧ w'.cell? ⟨(ad416.add ((x6_1).toNat * 2)).block,(ad416.add ((x6_1).toNat * 2)).off + 1,none⟩ = some (.int .u64 ((rd_T25 l0 x6_1).f1)) ∧ w'.cell? (ad417.add ((x7_2).toNat * 2)) = some (.int .u64 ((rd_T25 l1 x7_2).f0)) ∧ w'.cell? ⟨(ad417.add ((x7_2).toNat * 2)).block,(ad417.add ((x7_2).toNat * 2)).off + 1,none⟩ = some (.int .u64 ((rd_T25 l1 x7_2).f1))) (ds:=[]) #[false,false,false,false,false,false,false,false,false,false,false,false] (by kernel_rfl) rfl rfl ⟨((HB.out.cell (World.block_lt_of_cell? w _ hw416_0)).trans hw416_0),((HB.out.cell (World.block_lt_of_cell? w _ hw416_1)).trans hw416_1),((HB.out.cell (World.block_lt_of_cell? w _ hw417_0)).trans hw417_0),((HB.out.cell (World.block_lt_of_cell? w _ hw417_1)).trans hw417_1)⟩ (fun hHeld => ?_);refine with_tabW wigwagref07_Both.tab8 wigwagref07_Both.bits8 (fun HT_ HW_ => ?_)
          generalize wr.drew = w10 at HO_5 HB hx416_0 hx416_1 hx417_0 hx417_1 hHeld ⊢
          refine pure_ (i:=0) (N:=some 20) (v:=?_) (a':=?_) #[true,false,false,false,false,false,false,false,false,false,false,false] rfl rfl (any_of HT_.out (by kernel_rfl)) (fun _ _ _ h => h) (Or.inl ⟨by rfl,?_⟩) ?_ ?_
          rotate_left
          ·intro w'
           go_simp
           with_reducible rfl
          rotate_left
          ·simp only [Act.put,List.setIfInBounds_toArray,List.set_cons_zero,List.set_cons_succ,i64_w,i32_w]
           rfl
          refine pure_ (i:=1) (N:=some 21) (v:=?_) (a':=?_) #[true,true,false,false,false,false,false,false,false,false,false,false] rfl rfl (any_of HT_.out (by kernel_rfl)) (fun _ _ _ h => h) (Or.inl ⟨by rfl,?_⟩) ?_ ?_
          rotate_left
          ·intro w'
           go_simp
           with_reducible rfl
          rotate_left
          ·simp only [Act.put,List.setIfInBounds_toArray,List.set_cons_zero,List.set_cons_succ,i64_w,i32_w]
           rfl
          refine pure_ (i:=2) (N:=some 22) (v:=?_) (a':=?_) #[true,true,true,false,false,false,false,false,false,false,false,false] rfl rfl (any_of HT_.out (by kernel_rfl)) (fun _ _ _ h => h) (Or.inl ⟨by rfl,?_⟩) ?_ ?_
          rotate_left
          ·intro w'
           go_simp
           with_reducible rfl
          rotate_left
          ·simp only [Act.put,List.setIfInBounds_toArray,List.set_cons_zero,List.set_cons_succ,i64_w,i32_w]
           rfl
          refine pure_ (i:=3) (N:=some 23) (v:=?_) (a':=?_) #[true,true,true,true,false,false,false,false,false,false,false,false] rfl rfl (any_of HT_.out (by kernel_rfl)) (fun _ _ _ h => h) (Or.inl ⟨by rfl,?_⟩) ?_ ?_
          rotate_left
          ·intro w'
           go_simp
           with_reducible rfl
          rotate_left
          ·simp only [Act.put,List.setIfInBounds_toArray,List.set_cons_zero,List.set_cons_succ,i64_w,i32_w]
           rfl
          refine pure_ (i:=5) (N:=some 25) (v:=?_) (a':=?_) #[true,true,true,true,false,true,false,false,false,false,false,false] rfl rfl (any_of HT_.out (by kernel_rfl)) (fun _ _ _ h => h) (Or.inl ⟨by rfl,?_⟩) ?_ ?_
          rotate_left
          ·intro w'
           go_simp
           with_reducible rfl
          rotate_left
          ·simp only [Act.put,List.setIfInBounds_toArray,List.set_cons_zero,List.set_cons_succ,i64_w,i32_w]
           rfl
          refine pure_ (i:=6) (N:=some 26) (v:=?_) (a':=?_) #[true,true,true,true,false,true,true,false,false,false,false,false] rfl rfl (any_of HT_.out (by kernel_rfl)) (fun _ _ _ h => h) (Or.inl ⟨by rfl,?_⟩) ?_ ?_
          rotate_left
          ·intro w'
           go_simp
           with_reducible rfl
          rotate_left
          ·simp only [Act.put,List.setIfInBounds_toArray,List.set_cons_zero,List.set_cons_succ,i64_w,i32_w]
           rfl
          refine pure_ (i:=7) (N:=some 27) (v:=?_) (a':=?_) #[true,true,true,true,false,true,true,true,false,false,false,false] rfl rfl (any_of HT_.out (by kernel_rfl)) (fun _ _ _ h => h) (Or.inl ⟨by rfl,?_⟩) ?_ ?_
          rotate_left
          ·intro w'
           go_simp
           with_reducible rfl
          rotate_left
          ·simp only [Act.put,List.setIfInBounds_toArray,List.set_cons_zero,List.set_cons_succ,i64_w,i32_w]
           rfl
          refine take_ (i:=4) (N:=some 24) (v:=?_) (a':=?_) #[true,true,true,true,true,true,true,true,false,false,false,false] rfl rfl (take_ofW HT_.out HW_.out (by kernel_rfl)) (fun _ _ _ h => h) (Or.inl ⟨by rfl,?_⟩) hHeld ?_ ?_
          rotate_left
          ·rintro w' ⟨s0,s1,s2,s3⟩
           go_simp
           with_reducible rfl
          rotate_left
          ·simp only [Act.put,List.setIfInBounds_toArray,List.set_cons_zero,List.set_cons_succ,i64_w,i32_w]
           rfl
          refine take_ (i:=8) (N:=some 28) (v:=?_) (a':=?_) #[true,true,true,true,true,true,true,true,true,false,false,false] rfl rfl (take_ofW HT_.out HW_.out (by kernel_rfl)) (fun _ _ _ h => h) (Or.inl ⟨by rfl,?_⟩) hHeld ?_ ?_
          rotate_left
          ·rintro w' ⟨s0,s1,s2,s3⟩
           go_simp
           with_reducible rfl
          rotate_left
          ·simp only [Act.put,List.setIfInBounds_toArray,List.set_cons_zero,List.set_cons_succ,i64_w,i32_w]
           rfl
          refine one_ (i:=9) (N:=some 29) #[true,true,true,true,true,true,true,true,true,true,false,false] rfl rfl (one_of HT_.out (by kernel_rfl)) (by decide) (fun K hK => ?_)
          refine goes_ Try.func32 (by kernel_rfl) rfl #[.agg #[.int .u64 ((rd_T25 l0 x6_1).f0),.int .u64 ((rd_T25 l0 x6_1).f1)],.agg #[.int .u64 ((rd_T25 l1 x7_2).f0),.int .u64 ((rd_T25 l1 x7_2).f1)]] (by rfl) rfl rfl (by (try simp only [List.map_toArray,List.map_cons,List.map_nil]);first | done | rfl | (simp only [List.length_drop,List.length_take];rfl)) ?_
          with_reducible refine (wigwagref07_meet.calls ((rd_T25 l0 x6_1).f0) ((rd_T25 l0 x6_1).f1) ((rd_T25 l1 x7_2).f0) ((rd_T25 l1 x7_2).f1) t418 t419 _ A8.out).mono ?_
          rintro e w11 ⟨rfl,hb⟩
          refine ⟨_,rfl,?_⟩
          have n0_:=Aside0.mk (Kd.R_below (by (with_reducible repeat (first | apply Kd.R_alloc | apply Kd.R_drewN | apply Kd.R_drew));exact HO_5.out) hb)
          have n1_:=Aside0.mk (below_step (by repeat (first | (with_reducible first | exact HB.out | apply below_alloc | apply pw_below_drewN | apply below_drew1) | exact HB.out)) hb)
          clear HO_5
          clear HB
          have HO_5:=n0_
          have HB:=n1_
          clear n0_ n1_
          (try clear hb)
          (try clear hb2)
          (try clear hk)
          (try clear hi)
          obtain ⟨Ao12,co12,eo12⟩:=Kd.R_slice HO_5.out
          (first | subst eo12 | (injection eo12 with f1_ f2_ f3_;have f4_:=f1_.symm;have f5_:=f3_.symm;clear f1_ f2_ f3_;subst f4_;subst f5_))
          refine hK.out _ _ ⟨((HB.out.cell (World.block_lt_of_cell? w _ hw416_0)).trans hw416_0),((HB.out.cell (World.block_lt_of_cell? w _ hw416_1)).trans hw416_1),((HB.out.cell (World.block_lt_of_cell? w _ hw417_0)).trans hw417_0),((HB.out.cell (World.block_lt_of_cell? w _ hw417_1)).trans hw417_1)⟩ (fun hHeld => ?_)
          clear hK K
          refine norm_ (a':=?_) ?_ ?_
          rotate_left
          ·show Act.put _ (some 29) _ = _
           simp only [Act.put,List.setIfInBounds_toArray,List.set_cons_zero,List.set_cons_succ,i64_w,i32_w]
           rfl
          refine one_ (i:=10) (N:=some 30) #[true,true,true,true,true,true,true,true,true,true,true,false] rfl rfl (one_of HT_.out (by kernel_rfl)) (by decide) (fun K hK => ?_)
          refine goes_ Try.func30 (by kernel_rfl) rfl #[.slice Ao12 x5_2.length co12,.agg #[.int .u64 t418,.int .u64 t419]] (by rfl) rfl rfl (by (try simp only [List.map_toArray,List.map_cons,List.map_nil]);first | done | rfl | (simp only [List.length_drop,List.length_take];rfl)) ?_
          with_reducible refine (wigwagref07_joined.calls k2 (fun k_ => some k_ = (.slice Ao12 x5_2.length co12 : Value).ownBlock) (.slice Ao12 x5_2.length co12) x5_2 t418 t419 t420 w _ ?side1 ?side2 A9.out).mono ?_
          (case side1 => repeat (first | (with_reducible first | exact HB.out | apply below_alloc | apply pw_below_drewN | apply below_drew1) | exact HB.out))
          (case side2 => exact Kd.R_tight rfl HO_5.out)
          rintro e w13 ⟨v421,rfl,ho0,hb,hkp⟩
          refine ⟨_,rfl,?_⟩
          have n0_:=Aside0.mk (Kd.R_mono (ok':=fun k_ => True) ho0 (fun k_ hk_ => trivial))
          have n1_:=Aside0.mk (hb)
          clear HB
          clear HO_5
          have HO422:=n0_
          have HB:=n1_
          clear n0_ n1_
          (try clear hb)
          (try clear hkp)
          (try clear ho0)
          refine hK.out _ _ ⟨((HB.out.cell (World.block_lt_of_cell? w _ hw416_0)).trans hw416_0),((HB.out.cell (World.block_lt_of_cell? w _ hw416_1)).trans hw416_1),((HB.out.cell (World.block_lt_of_cell? w _ hw417_0)).trans hw417_0),((HB.out.cell (World.block_lt_of_cell? w _ hw417_1)).trans hw417_1)⟩ (fun hHeld => ?_)
          clear hK K
          refine norm_ (a':=?_) ?_ ?_
          rotate_left
          ·show Act.put _ (some 30) _ = _
           simp only [Act.put,List.setIfInBounds_toArray,List.set_cons_zero,List.set_cons_succ,i64_w,i32_w]
           rfl
          refine pure_ (i:=11) (N:=some 5) (v:=?_) (a':=?_) #[true,true,true,true,true,true,true,true,true,true,true,true] rfl rfl (any_of HT_.out (by kernel_rfl)) (fun _ _ _ h => h) (Or.inl ⟨by rfl,?_⟩) ?_ ?_
          rotate_left
          ·intro w'
           go_simp
           with_reducible rfl
          rotate_left
          ·simp only [Act.put,List.setIfInBounds_toArray,List.set_cons_zero,List.set_cons_succ,i64_w,i32_w]
           rfl
          refine done_ (done_of HT_.out (by kernel_rfl)) ?_
          try go_wp2
          go_roundg k2
          case measure => have:=HK1.out;have:=HK2.out;omega
          case rel => exact ⟨(t420),(wrap64 (x7_2 + 1)),(by first | rfl | (simp;done) | (simp [*];done)),H',⟨by have:=HK1.out;have:=HK2.out;omega⟩,⟨by (with_reducible repeat (first | apply Kd.R_alloc | apply Kd.R_drewN | apply Kd.R_drew));exact HO422.out⟩,⟨by repeat (first | (with_reducible first | exact HB.out | apply below_alloc | apply pw_below_drewN | apply below_drew1) | exact HB.out)⟩⟩
         ·rw [if_neg c7] at H
          exact absurd H (by simp)
        ·rw [if_neg c6] at H
         exact absurd H (by simp)
       ·rw [if_neg c5] at H
        exact absurd H (by simp)
      ·rw [if_neg c4] at H
       have c4b0 : decide (x7_2 < (l1.length : Int)) = false:=decide_eq_false c4
       clear c4
       have H':=Aside0.mk H
       clear H
       go_wp2
       go_roundg k2
       case measure => have:=HK1.out;have:=HK2.out;omega
       case rel => exact ⟨(x5_2),(wrap64 (x6_1 + 1)),(by first | rfl | (simp;done) | (simp [*];done)),H',⟨by have:=HK1.out;have:=HK2.out;omega⟩,⟨by (with_reducible repeat (first | apply Kd.R_alloc | apply Kd.R_drewN | apply Kd.R_drew));exact HO_5.out⟩,⟨by repeat (first | (with_reducible first | exact HB.out | apply below_alloc | apply pw_below_drewN | apply below_drew1) | exact HB.out)⟩⟩
   ·rw [if_neg c3] at H
    have c3b0 : decide (x6_1 < (l0.length : Int)) = false:=decide_eq_false c3
    clear c3
    obtain rfl:=Option.some.inj H
    go_wp2
    go_ret
    exact ⟨_,by first | rfl | (simp [errW_none,errW_some] <;> rfl) | (simp [*,errW_none,errW_some] <;> rfl),by (with_reducible repeat (first | apply Kd.R_alloc | apply Kd.R_drewN | apply Kd.R_drew));exact HO_5.out,by repeat (first | (with_reducible first | exact HB.out | apply below_alloc | apply pw_below_drewN | apply below_drew1) | exact HB.out)⟩

end Go.Proofs.Ytgaccappklhojaa.P
