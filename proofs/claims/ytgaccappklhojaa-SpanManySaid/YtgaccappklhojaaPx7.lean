-- Printed for this claim by xprint.py of this session: contracts of this session's own stand in for what the print does not take
import Derived.Test.YtgaccappklhojaaPx0
namespace Go.Proofs.Ytgaccappklhojaa.P
open Go.RowKit Go.Proofs.YtgaccappklhojaaW.PrintWords Go.Proofs.YtgaccappklhojaaW.PrintLast Go.Proofs.YtgaccappklhojaaW.PrintMore
attribute [local go_sem] max2_int min2_int max_two min_two max_three min_three max_four min_four   -- for this text's walks alone
set_option linter.unusedVariables false
set_option linter.unusedSimpArgs false

/-! ### span_Both: function 21 -/
mutual
def span_Both.l0 : Nat → List (S25) → List (S25) → List (S25) → Option ((List (S25)))
 | 0,_,_,_ => none
 | k + 1,x0,x1,x4 => if (x0.length : Int) > 0 then (span_Both.j1 k x0 x1 x4 (decide ((x1.length : Int) > 0))) else (span_Both.j1 k x0 x1 x4 false)
def span_Both.j1 : Nat → List (S25) → List (S25) → List (S25) → Bool → Option ((List (S25)))
 | 0,_,_,_,_ => none
 | k + 1,x0,x1,x4,x13 => if x13 = true then (if 0 < (x0.length : Int) then (if 0 < (x1.length : Int) then (if (mx ((rd_T25 x0 0).f0) ((rd_T25 x1 0).f0)) < (mn ((rd_T25 x0 0).f1) ((rd_T25 x1 0).f1)) then (if x4.length < 8796093022208 then ((some (x4 ++ [(⟨mx ((rd_T25 x0 0).f0) ((rd_T25 x1 0).f0),mn ((rd_T25 x0 0).f1) ((rd_T25 x1 0).f1)⟩ : S25)] : List (S25))).bind fun y156 => (if ((rd_T25 x0 0).f1) < ((rd_T25 x1 0).f1) then (if 1 ≤ (x0.length : Int) then (span_Both.l0 k (x0.drop 1) x1 y156) else (none)) else (if 1 ≤ (x1.length : Int) then (span_Both.l0 k x0 (x1.drop 1) y156) else (none)))) else (none)) else (if ((rd_T25 x0 0).f1) < ((rd_T25 x1 0).f1) then (if 1 ≤ (x0.length : Int) then (span_Both.l0 k (x0.drop 1) x1 x4) else (none)) else (if 1 ≤ (x1.length : Int) then (span_Both.l0 k x0 (x1.drop 1) x4) else (none)))) else (none)) else (none)) else (some x4)
end
def span_Both.f (k : Nat) (l0 : List (S25)) (l1 : List (S25)) : Option ((List (S25))):=span_Both.l0 k l0 l1 ([] : List (S25))
theorem span_Both.mono_l : ∀ k,(∀ y0 y1 y2,LeO (span_Both.l0 k y0 y1 y2) (span_Both.l0 (k + 1) y0 y1 y2)) ∧ (∀ y0 y1 y2 y3,LeO (span_Both.j1 k y0 y1 y2 y3) (span_Both.j1 (k + 1) y0 y1 y2 y3))
 | 0 => ⟨fun _ _ _ r h => by simp [span_Both.l0] at h,fun _ _ _ _ r h => by simp [span_Both.j1] at h⟩
 | k + 1 => by
  obtain ⟨ih0,ih1⟩:=span_Both.mono_l k
  refine ⟨?_,?_⟩
  ·intro y0 y1 y2
   unfold span_Both.l0
   repeat' first
   | (with_reducible exact ih0 _ _ _)
   | (with_reducible exact ih1 _ _ _ _)
   | (with_reducible exact LeO.refl _)
   | (with_reducible exact LeO.none _)
   | (with_reducible refine LeO.ite ?_ ?_)
   | (with_reducible refine LeO.bind ?_ (fun _ => ?_))
   | exact ih0 _ _ _
   | exact ih1 _ _ _ _
   | exact LeO.none _
   | refine LeO.ite ?_ ?_
   | refine LeO.bind ?_ (fun _ => ?_)
  ·intro y0 y1 y2 y3
   unfold span_Both.j1
   repeat' first
   | (with_reducible exact ih0 _ _ _)
   | (with_reducible exact ih1 _ _ _ _)
   | (with_reducible exact LeO.refl _)
   | (with_reducible exact LeO.none _)
   | (with_reducible refine LeO.ite ?_ ?_)
   | (with_reducible refine LeO.bind ?_ (fun _ => ?_))
   | exact ih0 _ _ _
   | exact ih1 _ _ _ _
   | exact LeO.none _
   | refine LeO.ite ?_ ?_
   | refine LeO.bind ?_ (fun _ => ?_)
theorem span_Both.mono : ∀ a0 a1 k,LeO (span_Both.f k a0 a1) (span_Both.f (k + 1) a0 a1):=by
 intro a0 a1 k
 obtain ⟨ih0,ih1⟩:=span_Both.mono_l k
 unfold span_Both.f
 repeat' first
   | (with_reducible exact ih0 _ _ _)
   | (with_reducible exact ih1 _ _ _ _)
   | (with_reducible exact LeO.refl _)
   | (with_reducible exact LeO.none _)
   | (with_reducible refine LeO.ite ?_ ?_)
   | (with_reducible refine LeO.bind ?_ (fun _ => ?_))
   | exact ih0 _ _ _
   | exact ih1 _ _ _ _
   | exact LeO.none _
   | refine LeO.ite ?_ ?_
   | refine LeO.bind ?_ (fun _ => ?_)
def span_Both.T2 : Bool × List (List Nat × List Nat):=(true,[([],[]),([0],[0]),([1],[1]),([2],[2]),([],[]),([4],[4]),([5],[5]),([6],[6]),([3,7],[3,7]),([],[]),([9],[9]),([10],[10]),([11],[11]),([],[]),([13],[13]),([14],[14]),([15],[15]),([12,16],[12,16]),([8,17],[8,17]),([],[]),([19,18,0,1,2,3,4,5,6,7,8,9,10,11,12,13,14,15,16,17,18,19],[18,19])])
def span_Both.B2 : List Nat:=[0,1,3,7,0,16,48,112,255,0,512,1536,3584,0,8192,24576,57344,130560,262143,0,1048575]
theorem span_Both.tab2 : rtab .any (opsOf Try.f21 2) = span_Both.T2:=by kernel_rfl
theorem span_Both.bits2 : waitsOk span_Both.T2.2 span_Both.B2 = true:=by kernel_rfl
def span_Both.T5 : Bool × List (List Nat × List Nat):=(true,[([],[]),([0],[0]),([1],[1]),([2],[2]),([],[]),([4],[4]),([5],[5]),([6],[6]),([3,7],[3,7])])
def span_Both.B5 : List Nat:=[0,1,3,7,0,16,48,112,255]
theorem span_Both.tab5 : rtab .any (opsOf Try.f21 5) = span_Both.T5:=by kernel_rfl
theorem span_Both.bits5 : waitsOk span_Both.T5.2 span_Both.B5 = true:=by kernel_rfl
set_option maxHeartbeats 8000000 in
set_option maxRecDepth 100000 in
theorem span_Both.calls (k : Nat) (P0_ : Nat → Prop) (A0 : Option Addr) (c0 : Nat) (l0 : List (S25)) (P1_ : Nat → Prop) (A1 : Option Addr) (c1 : Nat) (l1 : List (S25)) (r : List (S25)) (w : World) (hs0 : Kd.V k25 25 w w.heap.size (fun k_ => P0_ k_) (.slice A0 l0.length c0) l0) (hs1 : Kd.V k25 25 w w.heap.size (fun k_ => P1_ k_) (.slice A1 l1.length c1) l1) (h : span_Both.f k l0 l1 = some r) :
  Calls Try.prog 21 #[.slice A0 l0.length c0,.slice A1 l1.length c1] w fun e w' => ∃ v0_ : Value,e = .returned (v0_) ∧ Kd.R k25 25 w' w.heap.size (fun k_ => (w.heap.size ≤ k_)) v0_ r ∧ Below w.heap.size w w':=by
 have hu25:=Try.underlying25
 have HO0:=Aside0.mk (show Kd.V k25 25 w w.heap.size (fun k_ => ((P0_ k_ ∨ P1_ k_) ∨ w.heap.size ≤ k_)) (.slice A0 l0.length c0) l0 from Kd.V_mono hs0 (fun k_ hk => .inl (.inl hk)))
 have HO1:=Aside0.mk (show Kd.V k25 25 w w.heap.size (fun k_ => ((P0_ k_ ∨ P1_ k_) ∨ w.heap.size ≤ k_)) (.slice A1 l1.length c1) l1 from Kd.V_mono hs1 (fun k_ hk => .inl (.inr hk)))
 have HB:=Aside0.mk (Below.refl w.heap.size w)
 have H : (span_Both.l0 k l0 l1 ([] : List (S25))) = some r:=h
 clear h
 have H':=Aside0.mk H
 clear H
 go_enter Try.func21,Try.ntmps21
 go_wp2
 go_loopg [0,1,4] k (fun kq v0 v1 v4 w' => ∃ (x0_1 : List (S25)) (x1_1 : List (S25)) (x4_1 : List (S25)),Aside0 (span_Both.l0 kq x0_1 x1_1 x4_1 = some r) ∧ Aside0 (kq ≤ k) ∧ Aside0 (Kd.V k25 25 w' w.heap.size (fun k_ => ((P0_ k_ ∨ P1_ k_) ∨ w.heap.size ≤ k_) ∧ some k_ ≠ (v4 : Value).ownBlock) v0 x0_1) ∧ Aside0 (Kd.V k25 25 w' w.heap.size (fun k_ => ((P0_ k_ ∨ P1_ k_) ∨ w.heap.size ≤ k_) ∧ some k_ ≠ (v4 : Value).ownBlock) v1 x1_1) ∧ Aside0 (Kd.R k25 25 w' w.heap.size (fun k_ => (w.heap.size ≤ k_)) v4 x4_1) ∧ Aside0 (Below w.heap.size w w'))
 case atStart => exact ⟨(l0),(l1),(([] : List (S25))),H',⟨Nat.le_refl _⟩,⟨by (with_reducible repeat (first | apply Kd.V_alloc | apply Kd.V_drewN | apply Kd.V_drew));exact Kd.V_mono HO0.out (fun _ hk => ⟨hk,(by simp [Value.ownBlock])⟩)⟩,⟨by (with_reducible repeat (first | apply Kd.V_alloc | apply Kd.V_drewN | apply Kd.V_drew));exact Kd.V_mono HO1.out (fun _ hk => ⟨hk,(by simp [Value.ownBlock])⟩)⟩,⟨by first | exact Kd.R_nil _ _ _ _ _ | exact Kd.N_nil _ _ _ _ _ | exact Kd.V_nil _ _ _ _ _ | exact Kd.Q_nil _ _ _ _ _ | exact Kd.S_nil _ _ _ _ _⟩,⟨by repeat (first | (with_reducible first | exact HB.out | apply below_alloc | apply pw_below_drewN | apply below_drew1) | exact HB.out)⟩⟩
 case round =>
  clear H'
  try clear c1
  try clear c2
  try clear p2
  obtain ⟨x0_1,x1_1,x4_1,HA,HK1,HO_0,HO_1,HO_4,HB⟩:=hrel
  cases gk with
  | zero => exact absurd HA.out (by simp [span_Both.l0])
  | succ k1 =>
   have H:=HA.out
   clear HA
   simp only [span_Both.l0] at H
   have HC3:=Aside0.mk H
   clear H
   go_upto_region 1 with (fail)
   go_cut [13] (fun v13 wc => ∃ (kq : Nat) (x13_2 : Bool),v13 = .bool x13_2 ∧ Aside0 (span_Both.j1 kq x0_1 x1_1 x4_1 x13_2 = some r) ∧ Aside0 (kq ≤ k1) ∧ Aside0 (Kd.V k25 25 wc w.heap.size (fun k_ => ((P0_ k_ ∨ P1_ k_) ∨ w.heap.size ≤ k_) ∧ some k_ ≠ (u4 : Value).ownBlock) u0 x0_1) ∧ Aside0 (Kd.V k25 25 wc w.heap.size (fun k_ => ((P0_ k_ ∨ P1_ k_) ∨ w.heap.size ≤ k_) ∧ some k_ ≠ (u4 : Value).ownBlock) u1 x1_1) ∧ Aside0 (Kd.R k25 25 wc w.heap.size (fun k_ => (w.heap.size ≤ k_)) u4 x4_1) ∧ Aside0 (Below w.heap.size w wc))
   case first =>
    have H:=HC3.out
    clear HC3
    by_cases c4 : (x0_1.length : Int) > 0
    ·rw [if_pos c4] at H
     have c4b0 : decide (0 < (x0_1.length : Int)) = true:=decide_eq_true c4
     have c4b1 : decide (0 < x0_1.length) = true:=decide_eq_true (by omega)
     clear c4
     (first | rw [c4b0] | (simp only [i64_w,i32_w];rw [c4b0]) | skip)
     have H':=Aside0.mk H
     clear H
     obtain ⟨Ao5,co5,eo5⟩:=Kd.V_slice HO_0.out
     subst eo5
     obtain ⟨Ao6,co6,eo6⟩:=Kd.V_slice HO_1.out
     subst eo6
     go_wp2
     go_meet
     case rel => exact ⟨_,(decide ((x1_1.length : Int) > 0)),(by first | rfl | (simp;done) | (simp [*];done)),H',⟨by have:=HK1.out;first | omega | exact Nat.le_refl _⟩,⟨by (with_reducible repeat (first | apply Kd.V_alloc | apply Kd.V_drewN | apply Kd.V_drew));exact HO_0.out⟩,⟨by (with_reducible repeat (first | apply Kd.V_alloc | apply Kd.V_drewN | apply Kd.V_drew));exact HO_1.out⟩,⟨by (with_reducible repeat (first | apply Kd.R_alloc | apply Kd.R_drewN | apply Kd.R_drew));exact HO_4.out⟩,⟨by repeat (first | (with_reducible first | exact HB.out | apply below_alloc | apply pw_below_drewN | apply below_drew1) | exact HB.out)⟩⟩
    ·rw [if_neg c4] at H
     have c4b0 : decide (0 < (x0_1.length : Int)) = false:=decide_eq_false c4
     have c4b1 : decide (0 < x0_1.length) = false:=decide_eq_false (by omega)
     clear c4
     (first | rw [c4b0] | (simp only [i64_w,i32_w];rw [c4b0]) | skip)
     have H':=Aside0.mk H
     clear H
     obtain ⟨Ao7,co7,eo7⟩:=Kd.V_slice HO_0.out
     subst eo7
     go_wp2
     go_meet
     case rel => exact ⟨_,(false),(by first | rfl | (simp;done) | (simp [*];done)),H',⟨by have:=HK1.out;first | omega | exact Nat.le_refl _⟩,⟨by (with_reducible repeat (first | apply Kd.V_alloc | apply Kd.V_drewN | apply Kd.V_drew));exact HO_0.out⟩,⟨by (with_reducible repeat (first | apply Kd.V_alloc | apply Kd.V_drewN | apply Kd.V_drew));exact HO_1.out⟩,⟨by (with_reducible repeat (first | apply Kd.R_alloc | apply Kd.R_drewN | apply Kd.R_drew));exact HO_4.out⟩,⟨by repeat (first | (with_reducible first | exact HB.out | apply below_alloc | apply pw_below_drewN | apply below_drew1) | exact HB.out)⟩⟩
   case rest =>
    clear HC3
    try clear c1
    try clear c2
    try clear p2
    try clear c4
    try clear c4b0
    try clear c4b1
    try clear p2
    obtain ⟨kq,x13_2,rfl,HA,HJ2,HO_0,HO_1,HO_4,HB⟩:=hcut
    cases kq with
    | zero => exact absurd HA.out (by simp [span_Both.j1])
    | succ kj2 =>
     have H:=HA.out
     clear HA
     simp only [span_Both.j1] at H
     by_cases c8 : x13_2 = true
     ·subst c8
      have H1 : (if 0 < (x0_1.length : Int) then (if 0 < (x1_1.length : Int) then (if (mx ((rd_T25 x0_1 0).f0) ((rd_T25 x1_1 0).f0)) < (mn ((rd_T25 x0_1 0).f1) ((rd_T25 x1_1 0).f1)) then (if x4_1.length < 8796093022208 then ((some (x4_1 ++ [(⟨mx ((rd_T25 x0_1 0).f0) ((rd_T25 x1_1 0).f0),mn ((rd_T25 x0_1 0).f1) ((rd_T25 x1_1 0).f1)⟩ : S25)] : List (S25))).bind fun y156 => (if ((rd_T25 x0_1 0).f1) < ((rd_T25 x1_1 0).f1) then (if 1 ≤ (x0_1.length : Int) then (span_Both.l0 kj2 (x0_1.drop 1) x1_1 y156) else (none)) else (if 1 ≤ (x1_1.length : Int) then (span_Both.l0 kj2 x0_1 (x1_1.drop 1) y156) else (none)))) else (none)) else (if ((rd_T25 x0_1 0).f1) < ((rd_T25 x1_1 0).f1) then (if 1 ≤ (x0_1.length : Int) then (span_Both.l0 kj2 (x0_1.drop 1) x1_1 x4_1) else (none)) else (if 1 ≤ (x1_1.length : Int) then (span_Both.l0 kj2 x0_1 (x1_1.drop 1) x4_1) else (none)))) else (none)) else (none)) = some r:=by rw [if_pos rfl] at H;exact H
      clear H
      have H:=H1
      clear H1
      by_cases c9 : 0 < (x0_1.length : Int)
      ·rw [if_pos c9] at H
       have c9b0 : decide (0 < (x0_1.length : Int)) = true:=decide_eq_true c9
       have c9b1 : decide (0 < x0_1.length) = true:=decide_eq_true (by omega)
       clear c9
       by_cases c10 : 0 < (x1_1.length : Int)
       ·rw [if_pos c10] at H
        have c10b0 : decide (0 < (x1_1.length : Int)) = true:=decide_eq_true c10
        have c10b1 : decide (0 < x1_1.length) = true:=decide_eq_true (by omega)
        clear c10
        obtain ⟨ji11,hji11⟩ : ∃ j_ : Int,(mx ((rd_T25 x0_1 0).f0) ((rd_T25 x1_1 0).f0)) = j_:=⟨_,rfl⟩
        replace H : (if (ji11) < (mn ((rd_T25 x0_1 0).f1) ((rd_T25 x1_1 0).f1)) then (if x4_1.length < 8796093022208 then ((some (x4_1 ++ [(⟨ji11,mn ((rd_T25 x0_1 0).f1) ((rd_T25 x1_1 0).f1)⟩ : S25)] : List (S25))).bind fun y156 => (if ((rd_T25 x0_1 0).f1) < ((rd_T25 x1_1 0).f1) then (if 1 ≤ (x0_1.length : Int) then (span_Both.l0 kj2 (x0_1.drop 1) x1_1 y156) else (none)) else (if 1 ≤ (x1_1.length : Int) then (span_Both.l0 kj2 x0_1 (x1_1.drop 1) y156) else (none)))) else (none)) else (if ((rd_T25 x0_1 0).f1) < ((rd_T25 x1_1 0).f1) then (if 1 ≤ (x0_1.length : Int) then (span_Both.l0 kj2 (x0_1.drop 1) x1_1 x4_1) else (none)) else (if 1 ≤ (x1_1.length : Int) then (span_Both.l0 kj2 x0_1 (x1_1.drop 1) x4_1) else (none)))) = some r:=by first | (rw [hji11] at H;exact H) | (simp only [hji11] at H ⊢;exact H)
        have hji11_ : (if ((rd_T25 x0_1 0).f0) < ((rd_T25 x1_1 0).f0) then ((rd_T25 x1_1 0).f0) else ((rd_T25 x0_1 0).f0)) = ji11:=hji11
        obtain ⟨ji12,hji12⟩ : ∃ j_ : Int,(mn ((rd_T25 x0_1 0).f1) ((rd_T25 x1_1 0).f1)) = j_:=⟨_,rfl⟩
        replace H : (if (ji11) < (ji12) then (if x4_1.length < 8796093022208 then ((some (x4_1 ++ [(⟨ji11,ji12⟩ : S25)] : List (S25))).bind fun y156 => (if ((rd_T25 x0_1 0).f1) < ((rd_T25 x1_1 0).f1) then (if 1 ≤ (x0_1.length : Int) then (span_Both.l0 kj2 (x0_1.drop 1) x1_1 y156) else (none)) else (if 1 ≤ (x1_1.length : Int) then (span_Both.l0 kj2 x0_1 (x1_1.drop 1) y156) else (none)))) else (none)) else (if ((rd_T25 x0_1 0).f1) < ((rd_T25 x1_1 0).f1) then (if 1 ≤ (x0_1.length : Int) then (span_Both.l0 kj2 (x0_1.drop 1) x1_1 x4_1) else (none)) else (if 1 ≤ (x1_1.length : Int) then (span_Both.l0 kj2 x0_1 (x1_1.drop 1) x4_1) else (none)))) = some r:=by first | (rw [hji12] at H;exact H) | (simp only [hji12] at H ⊢;exact H)
        have hji12_ : (if ((rd_T25 x1_1 0).f1) < ((rd_T25 x0_1 0).f1) then ((rd_T25 x1_1 0).f1) else ((rd_T25 x0_1 0).f1)) = ji12:=hji12
        by_cases c13 : (ji11) < (ji12)
        ·rw [if_pos c13] at H
         have c13b0 : decide ((ji11) < (ji12)) = true:=decide_eq_true c13
         clear c13
         by_cases c14 : x4_1.length < 8796093022208
         ·rw [if_pos c14] at H
          have LMc14:=Aside0.mk c14
          clear c14
          obtain ⟨y156,hy156⟩ : ∃ y_ : List (S25),y_ = (x4_1 ++ [(⟨ji11,ji12⟩ : S25)]):=⟨_,rfl⟩
          replace H : (if ((rd_T25 x0_1 0).f1) < ((rd_T25 x1_1 0).f1) then (if 1 ≤ (x0_1.length : Int) then (span_Both.l0 kj2 (x0_1.drop 1) x1_1 y156) else (none)) else (if 1 ≤ (x1_1.length : Int) then (span_Both.l0 kj2 x0_1 (x1_1.drop 1) y156) else (none))) = some r:=by first | (rw [hy156];with_reducible exact H) | (have H2_:=(Option.bind_some _ _).symm.trans H;rw [hy156];with_reducible exact H2_) | (have H2_:=(Option.bind_some _ _).symm.trans H;with_reducible exact H2_) | with_reducible exact H | (rw [hy156];exact H) | exact H
          have Ny156:=Aside0.mk hy156
          clear hy156
          by_cases c15 : ((rd_T25 x0_1 0).f1) < ((rd_T25 x1_1 0).f1)
          ·rw [if_pos c15] at H
           have c15b0 : decide (((rd_T25 x0_1 0).f1) < ((rd_T25 x1_1 0).f1)) = true:=decide_eq_true c15
           clear c15
           by_cases c16 : 1 ≤ (x0_1.length : Int)
           ·rw [if_pos c16] at H
            have c16b0:=eq_true c16
            have c16b1 : decide (1 ≤ (x0_1.length : Int)) = true:=decide_eq_true c16
            clear c16
            obtain ⟨y161,hy161⟩ : ∃ y_ : List (S25),y_ = (x0_1.drop 1):=⟨_,rfl⟩
            replace H : (span_Both.l0 kj2 y161 x1_1 y156) = some r:=by first | (rw [hy161];with_reducible exact H) | (have H2_:=(Option.bind_some _ _).symm.trans H;rw [hy161];with_reducible exact H2_) | (have H2_:=(Option.bind_some _ _).symm.trans H;with_reducible exact H2_) | with_reducible exact H | (rw [hy161];exact H) | exact H
            have Ny161:=Aside0.mk hy161
            clear hy161
            have H':=Aside0.mk H
            clear H
            try go_wp2
            have n0_:=Aside0.mk (Kd.V_drew HO_0.out)
            have n1_:=Aside0.mk (Kd.V_drew HO_1.out)
            have n2_:=Aside0.mk (Kd.R_drew HO_4.out)
            have n3_:=Aside0.mk (below_drew1 HB.out)
            clear HO_0
            clear HO_1
            clear HO_4
            clear HB
            have HO_0:=n0_
            have HO_1:=n1_
            have HO_4:=n2_
            have HB:=n3_
            clear n0_ n1_ n2_ n3_
            obtain ⟨Ao18,co18,eo18⟩:=Kd.V_slice HO_0.out
            (first | subst eo18 | (injection eo18 with f1_ f2_ f3_;have f4_:=f1_.symm;have f5_:=f3_.symm;clear f1_ f2_ f3_;subst f4_;subst f5_))
            have p151 : 0 ≤ (0 : Int):=(by omega)
            have q151 : 0 < (x0_1.length : Int):=of_decide_eq_true (by first | (with_reducible assumption) | assumption)
            obtain ⟨ad151,e151,hx151_0,hx151_1⟩:=at_T25 (Kd.V_reads' HO_0.out).2.2 0 p151 q151
            cases e151
            have qi151 : (0 < x0_1.length) = True:=eq_true (by omega)
            (try rw [show ((0 : Int)).toNat = 0 from rfl] at hx151_0)
            (try rw [show 0 * 2 = 0 from rfl] at hx151_0)
            (try rw [Addr.add_zero'] at hx151_0)
            (try rw [show ((0 : Int)).toNat = 0 from rfl] at hx151_1)
            (try rw [show 0 * 2 = 0 from rfl] at hx151_1)
            (try rw [Addr.add_zero'] at hx151_1)
            replace p151:=eq_true p151
            replace q151:=eq_true q151
            obtain ⟨Ao19,co19,eo19⟩:=Kd.V_slice HO_1.out
            (first | subst eo19 | (injection eo19 with f1_ f2_ f3_;have f4_:=f1_.symm;have f5_:=f3_.symm;clear f1_ f2_ f3_;subst f4_;subst f5_))
            have p152 : 0 ≤ (0 : Int):=(by omega)
            have q152 : 0 < (x1_1.length : Int):=of_decide_eq_true (by first | (with_reducible assumption) | assumption)
            obtain ⟨ad152,e152,hx152_0,hx152_1⟩:=at_T25 (Kd.V_reads' HO_1.out).2.2 0 p152 q152
            cases e152
            have qi152 : (0 < x1_1.length) = True:=eq_true (by omega)
            (try rw [show ((0 : Int)).toNat = 0 from rfl] at hx152_0)
            (try rw [show 0 * 2 = 0 from rfl] at hx152_0)
            (try rw [Addr.add_zero'] at hx152_0)
            (try rw [show ((0 : Int)).toNat = 0 from rfl] at hx152_1)
            (try rw [show 0 * 2 = 0 from rfl] at hx152_1)
            (try rw [Addr.add_zero'] at hx152_1)
            replace p152:=eq_true p152
            replace q152:=eq_true q152
            have p153 : 0 ≤ (0 : Int):=(by omega)
            have q153 : 0 < (x0_1.length : Int):=of_decide_eq_true (by first | (with_reducible assumption) | assumption)
            obtain ⟨ad153,e153,hx153_0,hx153_1⟩:=at_T25 (Kd.V_reads' HO_0.out).2.2 0 p153 q153
            obtain rfl : ad151 = ad153:=(by injection e153)
            have qi153 : (0 < x0_1.length) = True:=eq_true (by omega)
            (try rw [show ((0 : Int)).toNat = 0 from rfl] at hx153_0)
            (try rw [show 0 * 2 = 0 from rfl] at hx153_0)
            (try rw [Addr.add_zero'] at hx153_0)
            (try rw [show ((0 : Int)).toNat = 0 from rfl] at hx153_1)
            (try rw [show 0 * 2 = 0 from rfl] at hx153_1)
            (try rw [Addr.add_zero'] at hx153_1)
            replace p153:=eq_true p153
            replace q153:=eq_true q153
            have p154 : 0 ≤ (0 : Int):=(by omega)
            have q154 : 0 < (x1_1.length : Int):=of_decide_eq_true (by first | (with_reducible assumption) | assumption)
            obtain ⟨ad154,e154,hx154_0,hx154_1⟩:=at_T25 (Kd.V_reads' HO_1.out).2.2 0 p154 q154
            obtain rfl : ad152 = ad154:=(by injection e154)
            have qi154 : (0 < x1_1.length) = True:=eq_true (by omega)
            (try rw [show ((0 : Int)).toNat = 0 from rfl] at hx154_0)
            (try rw [show 0 * 2 = 0 from rfl] at hx154_0)
            (try rw [Addr.add_zero'] at hx154_0)
            (try rw [show ((0 : Int)).toNat = 0 from rfl] at hx154_1)
            (try rw [show 0 * 2 = 0 from rfl] at hx154_1)
            (try rw [Addr.add_zero'] at hx154_1)
            replace p154:=eq_true p154
            replace q154:=eq_true q154
            refine start_ (n:=21) (S:=fun w' => w'.cell? ad151 = some (.int .u64 ((rd_T25 x0_1 0).f0)) ∧ w'.cell? ⟨ad151.block,ad151.off + 1,none⟩ = some (.int .u64 ((rd_T25 x0_1 0).f1)) ∧ w'.cell? ad152 = some (.int .u64 ((rd_T25 x1_1 0).f0)) ∧ w'.cell? ⟨ad152.block,ad152.off + 1,none⟩ = some (.int .u64 ((rd_T25 x1_1 0).f1)) ∧ w'.cell? ad151 = some (.int .u64 ((rd_T25 x0_1 0).f0)) ∧ w'.cell? ⟨ad151.block,ad151.off + 1,none⟩ = some (.int .u64 ((rd_T25 x0_1 0).f1)) ∧ w'.cell? ad152 = some (.int .u64 ((rd_T25 x1_1 0).f0)) ∧ w'.cell? ⟨ad152.block,ad152.off + 1,none⟩ = some (.int .u64 ((rd_T25 x1_1 0).f1))) (ds:=[]) #[false,false,false,false,false,false,false,false,false,false,false,false,false,false,false,false,false,false,false,false,false] (by kernel_rfl) rfl rfl ⟨hx151_0,hx151_1,hx152_0,hx152_1,hx153_0,hx153_1,hx154_0,hx154_1⟩ (fun hHeld => ?_);refine with_tabW span_Both.tab2 span_Both.bits2 (fun HT_ HW_ => ?_)
            generalize wc.drew = w17 at HO_0 HO_1 HO_4 HB hx151_0 hx151_1 hx152_0 hx152_1 hx153_0 hx153_1 hx154_0 hx154_1 hHeld ⊢
            refine pure_ (i:=0) (N:=some 14) (v:=?_) (a':=?_) #[true,false,false,false,false,false,false,false,false,false,false,false,false,false,false,false,false,false,false,false,false] rfl rfl (any_of HT_.out (by kernel_rfl)) (fun _ _ _ h => h) (Or.inl ⟨by rfl,?_⟩) ?_ ?_
            rotate_left
            ·intro w'
             go_simp
             with_reducible rfl
            rotate_left
            ·simp only [Act.put,List.setIfInBounds_toArray,List.set_cons_zero,List.set_cons_succ,i64_w,i32_w]
             rfl
            refine pure_ (i:=1) (N:=some 15) (v:=?_) (a':=?_) #[true,true,false,false,false,false,false,false,false,false,false,false,false,false,false,false,false,false,false,false,false] rfl rfl (any_of HT_.out (by kernel_rfl)) (fun _ _ _ h => h) (Or.inl ⟨by rfl,?_⟩) ?_ ?_
            rotate_left
            ·intro w'
             go_simp
             with_reducible rfl
            rotate_left
            ·simp only [Act.put,List.setIfInBounds_toArray,List.set_cons_zero,List.set_cons_succ,i64_w,i32_w]
             rfl
            refine pure_ (i:=2) (N:=some 16) (v:=?_) (a':=?_) #[true,true,true,false,false,false,false,false,false,false,false,false,false,false,false,false,false,false,false,false,false] rfl rfl (any_of HT_.out (by kernel_rfl)) (fun _ _ _ h => h) (Or.inl ⟨by rfl,?_⟩) ?_ ?_
            rotate_left
            ·intro w'
             go_simp
             with_reducible rfl
            rotate_left
            ·simp only [Act.put,List.setIfInBounds_toArray,List.set_cons_zero,List.set_cons_succ,i64_w,i32_w]
             rfl
            refine pure_ (i:=4) (N:=some 18) (v:=?_) (a':=?_) #[true,true,true,false,true,false,false,false,false,false,false,false,false,false,false,false,false,false,false,false,false] rfl rfl (any_of HT_.out (by kernel_rfl)) (fun _ _ _ h => h) (Or.inl ⟨by rfl,?_⟩) ?_ ?_
            rotate_left
            ·intro w'
             go_simp
             with_reducible rfl
            rotate_left
            ·simp only [Act.put,List.setIfInBounds_toArray,List.set_cons_zero,List.set_cons_succ,i64_w,i32_w]
             rfl
            refine pure_ (i:=5) (N:=some 19) (v:=?_) (a':=?_) #[true,true,true,false,true,true,false,false,false,false,false,false,false,false,false,false,false,false,false,false,false] rfl rfl (any_of HT_.out (by kernel_rfl)) (fun _ _ _ h => h) (Or.inl ⟨by rfl,?_⟩) ?_ ?_
            rotate_left
            ·intro w'
             go_simp
             with_reducible rfl
            rotate_left
            ·simp only [Act.put,List.setIfInBounds_toArray,List.set_cons_zero,List.set_cons_succ,i64_w,i32_w]
             rfl
            refine pure_ (i:=6) (N:=some 20) (v:=?_) (a':=?_) #[true,true,true,false,true,true,true,false,false,false,false,false,false,false,false,false,false,false,false,false,false] rfl rfl (any_of HT_.out (by kernel_rfl)) (fun _ _ _ h => h) (Or.inl ⟨by rfl,?_⟩) ?_ ?_
            rotate_left
            ·intro w'
             go_simp
             with_reducible rfl
            rotate_left
            ·simp only [Act.put,List.setIfInBounds_toArray,List.set_cons_zero,List.set_cons_succ,i64_w,i32_w]
             rfl
            refine pure_ (i:=9) (N:=some 23) (v:=?_) (a':=?_) #[true,true,true,false,true,true,true,false,false,true,false,false,false,false,false,false,false,false,false,false,false] rfl rfl (any_of HT_.out (by kernel_rfl)) (fun _ _ _ h => h) (Or.inl ⟨by rfl,?_⟩) ?_ ?_
            rotate_left
            ·intro w'
             go_simp
             with_reducible rfl
            rotate_left
            ·simp only [Act.put,List.setIfInBounds_toArray,List.set_cons_zero,List.set_cons_succ,i64_w,i32_w]
             rfl
            refine pure_ (i:=10) (N:=some 24) (v:=?_) (a':=?_) #[true,true,true,false,true,true,true,false,false,true,true,false,false,false,false,false,false,false,false,false,false] rfl rfl (any_of HT_.out (by kernel_rfl)) (fun _ _ _ h => h) (Or.inl ⟨by rfl,?_⟩) ?_ ?_
            rotate_left
            ·intro w'
             go_simp
             with_reducible rfl
            rotate_left
            ·simp only [Act.put,List.setIfInBounds_toArray,List.set_cons_zero,List.set_cons_succ,i64_w,i32_w]
             rfl
            refine pure_ (i:=11) (N:=some 25) (v:=?_) (a':=?_) #[true,true,true,false,true,true,true,false,false,true,true,true,false,false,false,false,false,false,false,false,false] rfl rfl (any_of HT_.out (by kernel_rfl)) (fun _ _ _ h => h) (Or.inl ⟨by rfl,?_⟩) ?_ ?_
            rotate_left
            ·intro w'
             go_simp
             with_reducible rfl
            rotate_left
            ·simp only [Act.put,List.setIfInBounds_toArray,List.set_cons_zero,List.set_cons_succ,i64_w,i32_w]
             rfl
            refine pure_ (i:=13) (N:=some 27) (v:=?_) (a':=?_) #[true,true,true,false,true,true,true,false,false,true,true,true,false,true,false,false,false,false,false,false,false] rfl rfl (any_of HT_.out (by kernel_rfl)) (fun _ _ _ h => h) (Or.inl ⟨by rfl,?_⟩) ?_ ?_
            rotate_left
            ·intro w'
             go_simp
             with_reducible rfl
            rotate_left
            ·simp only [Act.put,List.setIfInBounds_toArray,List.set_cons_zero,List.set_cons_succ,i64_w,i32_w]
             rfl
            refine pure_ (i:=14) (N:=some 28) (v:=?_) (a':=?_) #[true,true,true,false,true,true,true,false,false,true,true,true,false,true,true,false,false,false,false,false,false] rfl rfl (any_of HT_.out (by kernel_rfl)) (fun _ _ _ h => h) (Or.inl ⟨by rfl,?_⟩) ?_ ?_
            rotate_left
            ·intro w'
             go_simp
             with_reducible rfl
            rotate_left
            ·simp only [Act.put,List.setIfInBounds_toArray,List.set_cons_zero,List.set_cons_succ,i64_w,i32_w]
             rfl
            refine pure_ (i:=15) (N:=some 29) (v:=?_) (a':=?_) #[true,true,true,false,true,true,true,false,false,true,true,true,false,true,true,true,false,false,false,false,false] rfl rfl (any_of HT_.out (by kernel_rfl)) (fun _ _ _ h => h) (Or.inl ⟨by rfl,?_⟩) ?_ ?_
            rotate_left
            ·intro w'
             go_simp
             with_reducible rfl
            rotate_left
            ·simp only [Act.put,List.setIfInBounds_toArray,List.set_cons_zero,List.set_cons_succ,i64_w,i32_w]
             rfl
            refine take_ (i:=3) (N:=some 17) (v:=?_) (a':=?_) #[true,true,true,true,true,true,true,false,false,true,true,true,false,true,true,true,false,false,false,false,false] rfl rfl (take_ofW HT_.out HW_.out (by kernel_rfl)) (fun _ _ _ h => h) (Or.inl ⟨by rfl,?_⟩) hHeld ?_ ?_
            rotate_left
            ·rintro w' ⟨s0,s1,s2,s3,s4,s5,s6,s7⟩
             go_simp
             with_reducible rfl
            rotate_left
            ·simp only [Act.put,List.setIfInBounds_toArray,List.set_cons_zero,List.set_cons_succ,i64_w,i32_w]
             rfl
            refine take_ (i:=7) (N:=some 21) (v:=?_) (a':=?_) #[true,true,true,true,true,true,true,true,false,true,true,true,false,true,true,true,false,false,false,false,false] rfl rfl (take_ofW HT_.out HW_.out (by kernel_rfl)) (fun _ _ _ h => h) (Or.inl ⟨by rfl,?_⟩) hHeld ?_ ?_
            rotate_left
            ·rintro w' ⟨s0,s1,s2,s3,s4,s5,s6,s7⟩
             go_simp
             with_reducible rfl
            rotate_left
            ·simp only [Act.put,List.setIfInBounds_toArray,List.set_cons_zero,List.set_cons_succ,i64_w,i32_w]
             rfl
            refine pure_ (i:=8) (N:=some 22) (v:=?_) (a':=?_) #[true,true,true,true,true,true,true,true,true,true,true,true,false,true,true,true,false,false,false,false,false] rfl rfl (any_of HT_.out (by kernel_rfl)) (fun _ _ _ h => h) (Or.inl ⟨by rfl,?_⟩) ?_ ?_
            rotate_left
            ·intro w'
             go_simp
             with_reducible rfl
            rotate_left
            ·simp only [Act.put,List.setIfInBounds_toArray,List.set_cons_zero,List.set_cons_succ,i64_w,i32_w]
             rfl
            refine take_ (i:=12) (N:=some 26) (v:=?_) (a':=?_) #[true,true,true,true,true,true,true,true,true,true,true,true,true,true,true,true,false,false,false,false,false] rfl rfl (take_ofW HT_.out HW_.out (by kernel_rfl)) (fun _ _ _ h => h) (Or.inl ⟨by rfl,?_⟩) hHeld ?_ ?_
            rotate_left
            ·rintro w' ⟨s0,s1,s2,s3,s4,s5,s6,s7⟩
             go_simp
             with_reducible rfl
            rotate_left
            ·simp only [Act.put,List.setIfInBounds_toArray,List.set_cons_zero,List.set_cons_succ,i64_w,i32_w]
             rfl
            refine take_ (i:=16) (N:=some 30) (v:=?_) (a':=?_) #[true,true,true,true,true,true,true,true,true,true,true,true,true,true,true,true,true,false,false,false,false] rfl rfl (take_ofW HT_.out HW_.out (by kernel_rfl)) (fun _ _ _ h => h) (Or.inl ⟨by rfl,?_⟩) hHeld ?_ ?_
            rotate_left
            ·rintro w' ⟨s0,s1,s2,s3,s4,s5,s6,s7⟩
             go_simp
             with_reducible rfl
            rotate_left
            ·simp only [Act.put,List.setIfInBounds_toArray,List.set_cons_zero,List.set_cons_succ,i64_w,i32_w]
             rfl
            refine pure_ (i:=17) (N:=some 31) (v:=?_) (a':=?_) #[true,true,true,true,true,true,true,true,true,true,true,true,true,true,true,true,true,true,false,false,false] rfl rfl (any_of HT_.out (by kernel_rfl)) (fun _ _ _ h => h) (Or.inl ⟨by rfl,?_⟩) ?_ ?_
            rotate_left
            ·intro w'
             go_simp
             with_reducible rfl
            rotate_left
            ·simp only [Act.put,List.setIfInBounds_toArray,List.set_cons_zero,List.set_cons_succ,i64_w,i32_w]
             rfl
            refine pure_ (i:=18) (N:=some 32) (v:=?_) (a':=?_) #[true,true,true,true,true,true,true,true,true,true,true,true,true,true,true,true,true,true,true,false,false] rfl rfl (any_of HT_.out (by kernel_rfl)) (fun _ _ _ h => h) (Or.inl ⟨by rfl,?_⟩) ?_ ?_
            rotate_left
            ·intro w'
             go_simp
             with_reducible rfl
            rotate_left
            ·simp only [Act.put,List.setIfInBounds_toArray,List.set_cons_zero,List.set_cons_succ,i64_w,i32_w]
             rfl
            refine one_ (i:=19) (N:=some 5) #[true,true,true,true,true,true,true,true,true,true,true,true,true,true,true,true,true,true,true,true,false] rfl rfl (one_of HT_.out (by kernel_rfl)) (by decide) (fun K hK => ?_)
            refine box_step ?hg (N:=5) ?hd (cs:=#[.int .u64 0,.int .u64 0]) (t:=25) ?hr ?_;(case hd => rfl);(case hg => rfl);(case hr => first | (go_simp;done) | (go_simp;rfl))
            intro gb155 hg w20 hbox hb
            have HS0_:=(hb.cell (World.block_lt_of_cell? _ _ (hHeld.1))).trans (hHeld.1)
            have HS1_:=(hb.cell (World.block_lt_of_cell? _ _ (hHeld.2.1))).trans (hHeld.2.1)
            have HS2_:=(hb.cell (World.block_lt_of_cell? _ _ (hHeld.2.2.1))).trans (hHeld.2.2.1)
            have HS3_:=(hb.cell (World.block_lt_of_cell? _ _ (hHeld.2.2.2.1))).trans (hHeld.2.2.2.1)
            have HS4_:=(hb.cell (World.block_lt_of_cell? _ _ (hHeld.2.2.2.2.1))).trans (hHeld.2.2.2.2.1)
            have HS5_:=(hb.cell (World.block_lt_of_cell? _ _ (hHeld.2.2.2.2.2.1))).trans (hHeld.2.2.2.2.2.1)
            have HS6_:=(hb.cell (World.block_lt_of_cell? _ _ (hHeld.2.2.2.2.2.2.1))).trans (hHeld.2.2.2.2.2.2.1)
            have HS7_:=(hb.cell (World.block_lt_of_cell? _ _ (hHeld.2.2.2.2.2.2.2))).trans (hHeld.2.2.2.2.2.2.2)
            have n0_:=Aside0.mk (Kd.V_below (Kd.V_elderB (by (with_reducible repeat (first | apply Kd.V_alloc | apply Kd.V_drewN | apply Kd.V_drew));exact HO_0.out) gb155 (Nat.le_of_eq hg.symm)) hb)
            have n1_:=Aside0.mk (Kd.V_below (Kd.V_elderB (by (with_reducible repeat (first | apply Kd.V_alloc | apply Kd.V_drewN | apply Kd.V_drew));exact HO_1.out) gb155 (Nat.le_of_eq hg.symm)) hb)
            have n2_:=Aside0.mk (Kd.R_below (Kd.R_elderB (by (with_reducible repeat (first | apply Kd.R_alloc | apply Kd.R_drewN | apply Kd.R_drew));exact HO_4.out) gb155 (Nat.le_of_eq hg.symm)) hb)
            have n3_:=Aside0.mk (below_step (by repeat (first | (with_reducible first | exact HB.out | apply below_alloc | apply pw_below_drewN | apply below_drew1) | exact HB.out)) hb)
            have n4_:=Aside0.mk (hbox)
            have n5_:=Aside0.mk ((by rw [hg];exact (below_size (by repeat (first | (with_reducible first | exact HB.out | apply below_alloc | apply pw_below_drewN | apply below_drew1) | exact HB.out))) : w.heap.size ≤ gb155))
            have n6_:=Aside0.mk ((by rw [hg];exact (below_size (by repeat (first | (with_reducible first | exact HB.out | apply below_alloc | apply pw_below_drewN | apply below_drew1) | exact HB.out))) : w.heap.size ≤ gb155))
            clear HO_0
            clear HO_1
            clear HO_4
            clear HB
            have HO_0:=n0_
            have HO_1:=n1_
            have HO_4:=n2_
            have HB:=n3_
            have BK155:=n4_
            have GW155:=n5_
            have GE155:=n6_
            clear n0_ n1_ n2_ n3_ n4_ n5_ n6_
            clear hb hbox hg
            refine hK.out _ _ ⟨HS0_,HS1_,HS2_,HS3_,HS4_,HS5_,HS6_,HS7_⟩ (fun hHeld => ?_)
            clear hK K
            refine norm_ (a':=?_) ?_ ?_
            rotate_left
            ·show Act.put _ (some 5) _ = _
             simp only [Act.put,List.setIfInBounds_toArray,List.set_cons_zero,List.set_cons_succ,i64_w,i32_w]
             rfl
            refine one_ (i:=20) (N:=none) #[true,true,true,true,true,true,true,true,true,true,true,true,true,true,true,true,true,true,true,true,true] rfl rfl (one_of HT_.out (by kernel_rfl)) (by decide) (fun K hK => ?_)
            have hs21 : w20.cell? ⟨gb155,0,none⟩ = some (.int .u64 0):=(blk_cell BK155.out 0).trans rfl
            have hfs21:=blk_frozen BK155.out 0
            have hs22 : w20.cell? ⟨gb155,1,none⟩ = some (.int .u64 0):=(blk_cell BK155.out 1).trans rfl
            have hfs22:=blk_frozen BK155.out 1
            refine skip_ (w1:=?_) (by rfl) rfl ?_ ?_
            rotate_left
            ·go_simp
             rfl
            refine hK.out _ _ ⟨((cell_far (p:=⟨gb155,_,none⟩) (by first | exact V_blk HO_0.out (fun _ hk => hk.2) (by decide) (of_decide_eq_true (by assumption)) | (rw [add_block];exact V_blk HO_0.out (fun _ hk => hk.2) (by decide) (of_decide_eq_true (by assumption))) | (show (Addr.add _ _).block ≠ _;rw [add_block];exact V_blk HO_0.out (fun _ hk => hk.2) (by decide) (of_decide_eq_true (by assumption))) | (dsimp only;exact V_blk HO_0.out (fun _ hk => hk.2) (by decide) (of_decide_eq_true (by assumption)))) _).trans (((cell_far (p:=⟨gb155,_,none⟩) (by first | exact V_blk HO_0.out (fun _ hk => hk.2) (by decide) (of_decide_eq_true (by assumption)) | (rw [add_block];exact V_blk HO_0.out (fun _ hk => hk.2) (by decide) (of_decide_eq_true (by assumption))) | (show (Addr.add _ _).block ≠ _;rw [add_block];exact V_blk HO_0.out (fun _ hk => hk.2) (by decide) (of_decide_eq_true (by assumption))) | (dsimp only;exact V_blk HO_0.out (fun _ hk => hk.2) (by decide) (of_decide_eq_true (by assumption)))) _).trans (hHeld.1)))),((cell_far (p:=⟨gb155,_,none⟩) (by first | exact V_blk HO_0.out (fun _ hk => hk.2) (by decide) (of_decide_eq_true (by assumption)) | (rw [add_block];exact V_blk HO_0.out (fun _ hk => hk.2) (by decide) (of_decide_eq_true (by assumption))) | (show (Addr.add _ _).block ≠ _;rw [add_block];exact V_blk HO_0.out (fun _ hk => hk.2) (by decide) (of_decide_eq_true (by assumption))) | (dsimp only;exact V_blk HO_0.out (fun _ hk => hk.2) (by decide) (of_decide_eq_true (by assumption)))) _).trans (((cell_far (p:=⟨gb155,_,none⟩) (by first | exact V_blk HO_0.out (fun _ hk => hk.2) (by decide) (of_decide_eq_true (by assumption)) | (rw [add_block];exact V_blk HO_0.out (fun _ hk => hk.2) (by decide) (of_decide_eq_true (by assumption))) | (show (Addr.add _ _).block ≠ _;rw [add_block];exact V_blk HO_0.out (fun _ hk => hk.2) (by decide) (of_decide_eq_true (by assumption))) | (dsimp only;exact V_blk HO_0.out (fun _ hk => hk.2) (by decide) (of_decide_eq_true (by assumption)))) _).trans (hHeld.2.1)))),((cell_far (p:=⟨gb155,_,none⟩) (by first | exact V_blk HO_1.out (fun _ hk => hk.2) (by decide) (of_decide_eq_true (by assumption)) | (rw [add_block];exact V_blk HO_1.out (fun _ hk => hk.2) (by decide) (of_decide_eq_true (by assumption))) | (show (Addr.add _ _).block ≠ _;rw [add_block];exact V_blk HO_1.out (fun _ hk => hk.2) (by decide) (of_decide_eq_true (by assumption))) | (dsimp only;exact V_blk HO_1.out (fun _ hk => hk.2) (by decide) (of_decide_eq_true (by assumption)))) _).trans (((cell_far (p:=⟨gb155,_,none⟩) (by first | exact V_blk HO_1.out (fun _ hk => hk.2) (by decide) (of_decide_eq_true (by assumption)) | (rw [add_block];exact V_blk HO_1.out (fun _ hk => hk.2) (by decide) (of_decide_eq_true (by assumption))) | (show (Addr.add _ _).block ≠ _;rw [add_block];exact V_blk HO_1.out (fun _ hk => hk.2) (by decide) (of_decide_eq_true (by assumption))) | (dsimp only;exact V_blk HO_1.out (fun _ hk => hk.2) (by decide) (of_decide_eq_true (by assumption)))) _).trans (hHeld.2.2.1)))),((cell_far (p:=⟨gb155,_,none⟩) (by first | exact V_blk HO_1.out (fun _ hk => hk.2) (by decide) (of_decide_eq_true (by assumption)) | (rw [add_block];exact V_blk HO_1.out (fun _ hk => hk.2) (by decide) (of_decide_eq_true (by assumption))) | (show (Addr.add _ _).block ≠ _;rw [add_block];exact V_blk HO_1.out (fun _ hk => hk.2) (by decide) (of_decide_eq_true (by assumption))) | (dsimp only;exact V_blk HO_1.out (fun _ hk => hk.2) (by decide) (of_decide_eq_true (by assumption)))) _).trans (((cell_far (p:=⟨gb155,_,none⟩) (by first | exact V_blk HO_1.out (fun _ hk => hk.2) (by decide) (of_decide_eq_true (by assumption)) | (rw [add_block];exact V_blk HO_1.out (fun _ hk => hk.2) (by decide) (of_decide_eq_true (by assumption))) | (show (Addr.add _ _).block ≠ _;rw [add_block];exact V_blk HO_1.out (fun _ hk => hk.2) (by decide) (of_decide_eq_true (by assumption))) | (dsimp only;exact V_blk HO_1.out (fun _ hk => hk.2) (by decide) (of_decide_eq_true (by assumption)))) _).trans (hHeld.2.2.2.1)))),((cell_far (p:=⟨gb155,_,none⟩) (by first | exact V_blk HO_0.out (fun _ hk => hk.2) (by decide) (of_decide_eq_true (by assumption)) | (rw [add_block];exact V_blk HO_0.out (fun _ hk => hk.2) (by decide) (of_decide_eq_true (by assumption))) | (show (Addr.add _ _).block ≠ _;rw [add_block];exact V_blk HO_0.out (fun _ hk => hk.2) (by decide) (of_decide_eq_true (by assumption))) | (dsimp only;exact V_blk HO_0.out (fun _ hk => hk.2) (by decide) (of_decide_eq_true (by assumption)))) _).trans (((cell_far (p:=⟨gb155,_,none⟩) (by first | exact V_blk HO_0.out (fun _ hk => hk.2) (by decide) (of_decide_eq_true (by assumption)) | (rw [add_block];exact V_blk HO_0.out (fun _ hk => hk.2) (by decide) (of_decide_eq_true (by assumption))) | (show (Addr.add _ _).block ≠ _;rw [add_block];exact V_blk HO_0.out (fun _ hk => hk.2) (by decide) (of_decide_eq_true (by assumption))) | (dsimp only;exact V_blk HO_0.out (fun _ hk => hk.2) (by decide) (of_decide_eq_true (by assumption)))) _).trans (hHeld.2.2.2.2.1)))),((cell_far (p:=⟨gb155,_,none⟩) (by first | exact V_blk HO_0.out (fun _ hk => hk.2) (by decide) (of_decide_eq_true (by assumption)) | (rw [add_block];exact V_blk HO_0.out (fun _ hk => hk.2) (by decide) (of_decide_eq_true (by assumption))) | (show (Addr.add _ _).block ≠ _;rw [add_block];exact V_blk HO_0.out (fun _ hk => hk.2) (by decide) (of_decide_eq_true (by assumption))) | (dsimp only;exact V_blk HO_0.out (fun _ hk => hk.2) (by decide) (of_decide_eq_true (by assumption)))) _).trans (((cell_far (p:=⟨gb155,_,none⟩) (by first | exact V_blk HO_0.out (fun _ hk => hk.2) (by decide) (of_decide_eq_true (by assumption)) | (rw [add_block];exact V_blk HO_0.out (fun _ hk => hk.2) (by decide) (of_decide_eq_true (by assumption))) | (show (Addr.add _ _).block ≠ _;rw [add_block];exact V_blk HO_0.out (fun _ hk => hk.2) (by decide) (of_decide_eq_true (by assumption))) | (dsimp only;exact V_blk HO_0.out (fun _ hk => hk.2) (by decide) (of_decide_eq_true (by assumption)))) _).trans (hHeld.2.2.2.2.2.1)))),((cell_far (p:=⟨gb155,_,none⟩) (by first | exact V_blk HO_1.out (fun _ hk => hk.2) (by decide) (of_decide_eq_true (by assumption)) | (rw [add_block];exact V_blk HO_1.out (fun _ hk => hk.2) (by decide) (of_decide_eq_true (by assumption))) | (show (Addr.add _ _).block ≠ _;rw [add_block];exact V_blk HO_1.out (fun _ hk => hk.2) (by decide) (of_decide_eq_true (by assumption))) | (dsimp only;exact V_blk HO_1.out (fun _ hk => hk.2) (by decide) (of_decide_eq_true (by assumption)))) _).trans (((cell_far (p:=⟨gb155,_,none⟩) (by first | exact V_blk HO_1.out (fun _ hk => hk.2) (by decide) (of_decide_eq_true (by assumption)) | (rw [add_block];exact V_blk HO_1.out (fun _ hk => hk.2) (by decide) (of_decide_eq_true (by assumption))) | (show (Addr.add _ _).block ≠ _;rw [add_block];exact V_blk HO_1.out (fun _ hk => hk.2) (by decide) (of_decide_eq_true (by assumption))) | (dsimp only;exact V_blk HO_1.out (fun _ hk => hk.2) (by decide) (of_decide_eq_true (by assumption)))) _).trans (hHeld.2.2.2.2.2.2.1)))),((cell_far (p:=⟨gb155,_,none⟩) (by first | exact V_blk HO_1.out (fun _ hk => hk.2) (by decide) (of_decide_eq_true (by assumption)) | (rw [add_block];exact V_blk HO_1.out (fun _ hk => hk.2) (by decide) (of_decide_eq_true (by assumption))) | (show (Addr.add _ _).block ≠ _;rw [add_block];exact V_blk HO_1.out (fun _ hk => hk.2) (by decide) (of_decide_eq_true (by assumption))) | (dsimp only;exact V_blk HO_1.out (fun _ hk => hk.2) (by decide) (of_decide_eq_true (by assumption)))) _).trans (((cell_far (p:=⟨gb155,_,none⟩) (by first | exact V_blk HO_1.out (fun _ hk => hk.2) (by decide) (of_decide_eq_true (by assumption)) | (rw [add_block];exact V_blk HO_1.out (fun _ hk => hk.2) (by decide) (of_decide_eq_true (by assumption))) | (show (Addr.add _ _).block ≠ _;rw [add_block];exact V_blk HO_1.out (fun _ hk => hk.2) (by decide) (of_decide_eq_true (by assumption))) | (dsimp only;exact V_blk HO_1.out (fun _ hk => hk.2) (by decide) (of_decide_eq_true (by assumption)))) _).trans (hHeld.2.2.2.2.2.2.2))))⟩ (fun hHeld => ?_)
            clear hK K
            refine done_ (done_of HT_.out (by kernel_rfl)) ?_
            have hcz23_0 : w20.cell? ⟨gb155,0,none⟩ = some (.int .u64 0):=(blk_cell BK155.out 0).trans rfl
            have hcz23_1 : w20.cell? ⟨gb155,1,none⟩ = some (.int .u64 0):=(blk_cell BK155.out 1).trans rfl
            have hfz23_0:=blk_frozen BK155.out 0
            have hfz23_1:=blk_frozen BK155.out 1
            try go_wp2_with (first | ((with_reducible refine gate_builtin (b:=.append) (xs:=#[.tmp 38,.tmp 40]) rfl ?_);(try (refine gate_guard (by rfl) ?_;dsimp only));at_builtin;refine Kd.R_append k25 (w0:=w) w.heap.size rfl (.tmp 38) (.tmp 40) 22 25 (.agg #[(.int .u64 0),(.int .u64 0)]) 16 rfl Try.underlying22 info25 rfl (by decide) (by omega) u4 x4_1 (⟨ji11,ji12⟩ : S25) [.int .u64 ji11,.int .u64 ji12] (fun k_ => (w.heap.size ≤ k_) ∧ k_ ≠ gb155) (fun _ => False) rfl (by first | (go_simp;done) | (go_simp;rfl)) ?aP (fun _ hk => hk.elim) ?aF ?aO ?aB ?aS ?aL ?_;(case aP => exact k25_mkM _ _ _ (⟨ji11,ji12⟩ : S25));(case aB => exact (by repeat (first | (with_reducible first | exact HB.out | apply below_alloc | apply pw_below_drewN | apply below_drew1 | refine below_set ?_ GE155.out) | exact HB.out)));(case aF => exact (fun k_ hk => ⟨(Nat.le_trans (below_size (by repeat (first | (with_reducible first | exact HB.out | apply below_alloc | apply pw_below_drewN | apply below_drew1 | refine below_set ?_ GE155.out) | exact HB.out))) hk),Kd.freshB (g:=gb155) (o:=.cells #[.int .u64 ji11,.int .u64 ji12] 25 (0,0)) (by (with_reducible repeat (first | refine blk_drewN ?_ _ | refine blk_drew ?_ | refine blk_alloc ?_ _));refine blk_put (cs:=#[.int .u64 ji11,.int .u64 0]) ?_ 1 _ rfl;(with_reducible repeat (first | refine blk_drewN ?_ _ | refine blk_drew ?_ | refine blk_alloc ?_ _));refine blk_put (cs:=#[.int .u64 0,.int .u64 0]) ?_ 0 _ rfl;(with_reducible repeat (first | refine blk_drewN ?_ _ | refine blk_drew ?_ | refine blk_alloc ?_ _));exact BK155.out) k_ hk⟩));(case aO => exact (by (with_reducible repeat (first | apply Kd.R_alloc | apply Kd.R_drewN | apply Kd.R_drew));exact Kd.R_mono (Kd.R_far (p:=⟨gb155,1,none⟩) (Kd.R_far (p:=⟨gb155,0,none⟩) (Kd.R_mono HO_4.out (fun k_ hk => (⟨hk,hk.2⟩ : _ ∧ k_ ≠ gb155))) (fun _ hk => hk.2) (.int .u64 ji11)) (fun _ hk => hk.2) (.int .u64 ji12)) (fun _ hk => ⟨hk.1.1,hk.1.2⟩)));(case aS => exact (below_size (by repeat (first | (with_reducible first | exact HB.out | apply below_alloc | apply pw_below_drewN | apply below_drew1 | refine below_set ?_ GE155.out) | exact HB.out))));(case aL => have:=LMc14.out;omega);intro v157 w24 ho hb hg hat;rw [← Ny156.out] at ho;have n0_:=Aside0.mk (Kd.V_afterv (ok:=(fun k_ => ((P0_ k_ ∨ P1_ k_) ∨ w.heap.size ≤ k_) ∧ k_ ≠ gb155)) (by (with_reducible repeat (first | apply Kd.V_alloc | apply Kd.V_drewN | apply Kd.V_drew));exact Kd.V_mono (Kd.V_far (p:=⟨gb155,1,none⟩) (Kd.V_far (p:=⟨gb155,0,none⟩) (Kd.V_mono HO_0.out (fun k_ hk => (⟨hk,hk.2⟩ : _ ∧ k_ ≠ gb155))) (fun _ hk => hk.2) (.int .u64 ji11)) (fun _ hk => hk.2) (.int .u64 ji12)) (fun _ hk => ⟨⟨hk.1.1.1,hk.1.2⟩,hk.1.1.2⟩)) hg hat);have n1_:=Aside0.mk (Kd.V_afterv (ok:=(fun k_ => ((P0_ k_ ∨ P1_ k_) ∨ w.heap.size ≤ k_) ∧ k_ ≠ gb155)) (by (with_reducible repeat (first | apply Kd.V_alloc | apply Kd.V_drewN | apply Kd.V_drew));exact Kd.V_mono (Kd.V_far (p:=⟨gb155,1,none⟩) (Kd.V_far (p:=⟨gb155,0,none⟩) (Kd.V_mono HO_1.out (fun k_ hk => (⟨hk,hk.2⟩ : _ ∧ k_ ≠ gb155))) (fun _ hk => hk.2) (.int .u64 ji11)) (fun _ hk => hk.2) (.int .u64 ji12)) (fun _ hk => ⟨⟨hk.1.1.1,hk.1.2⟩,hk.1.1.2⟩)) hg hat);have n2_:=Aside0.mk (blk_grown (g:=gb155) (o:=.cells #[.int .u64 ji11,.int .u64 ji12] 25 (0,0)) (by (with_reducible repeat (first | refine blk_drewN ?_ _ | refine blk_drew ?_ | refine blk_alloc ?_ _));refine blk_put (cs:=#[.int .u64 ji11,.int .u64 0]) ?_ 1 _ rfl;(with_reducible repeat (first | refine blk_drewN ?_ _ | refine blk_drew ?_ | refine blk_alloc ?_ _));refine blk_put (cs:=#[.int .u64 0,.int .u64 0]) ?_ 0 _ rfl;(with_reducible repeat (first | refine blk_drewN ?_ _ | refine blk_drew ?_ | refine blk_alloc ?_ _));exact BK155.out) hg (Kd.R_away HO_4.out (fun _ hk => hk.2)));have n3_:=Aside0.mk (hb);have n4_:=Aside0.mk (ho);clear HO_0;clear HO_1;clear BK155;clear HB;clear HO_4;have HO_0:=n0_;have HO_1:=n1_;have BK155:=n2_;have HB:=n3_;have HO158:=n4_;clear n0_ n1_ n2_ n3_ n4_;clear ho hb hg hat))
            have n0_:=Aside0.mk (Kd.V_drew HO_0.out)
            have n1_:=Aside0.mk (Kd.V_drew HO_1.out)
            have n2_:=Aside0.mk (Kd.R_drew HO158.out)
            have n3_:=Aside0.mk (blk_drew BK155.out)
            have n4_:=Aside0.mk (below_drew1 HB.out)
            clear HO_0
            clear HO_1
            clear HO158
            clear BK155
            clear HB
            have HO_0:=n0_
            have HO_1:=n1_
            have HO158:=n2_
            have BK155:=n3_
            have HB:=n4_
            clear n0_ n1_ n2_ n3_ n4_
            have p159 : 0 ≤ (0 : Int):=(by omega)
            have q159 : 0 < (x0_1.length : Int):=of_decide_eq_true (by first | (with_reducible assumption) | assumption)
            obtain ⟨ad159,e159,hx159_0,hx159_1⟩:=at_T25 (Kd.V_reads' HO_0.out).2.2 0 p159 q159
            obtain rfl : ad151 = ad159:=(by injection e159)
            have qi159 : (0 < x0_1.length) = True:=eq_true (by omega)
            (try rw [show ((0 : Int)).toNat = 0 from rfl] at hx159_0)
            (try rw [show 0 * 2 = 0 from rfl] at hx159_0)
            (try rw [Addr.add_zero'] at hx159_0)
            (try rw [show ((0 : Int)).toNat = 0 from rfl] at hx159_1)
            (try rw [show 0 * 2 = 0 from rfl] at hx159_1)
            (try rw [Addr.add_zero'] at hx159_1)
            replace p159:=eq_true p159
            replace q159:=eq_true q159
            have p160 : 0 ≤ (0 : Int):=(by omega)
            have q160 : 0 < (x1_1.length : Int):=of_decide_eq_true (by first | (with_reducible assumption) | assumption)
            obtain ⟨ad160,e160,hx160_0,hx160_1⟩:=at_T25 (Kd.V_reads' HO_1.out).2.2 0 p160 q160
            obtain rfl : ad152 = ad160:=(by injection e160)
            have qi160 : (0 < x1_1.length) = True:=eq_true (by omega)
            (try rw [show ((0 : Int)).toNat = 0 from rfl] at hx160_0)
            (try rw [show 0 * 2 = 0 from rfl] at hx160_0)
            (try rw [Addr.add_zero'] at hx160_0)
            (try rw [show ((0 : Int)).toNat = 0 from rfl] at hx160_1)
            (try rw [show 0 * 2 = 0 from rfl] at hx160_1)
            (try rw [Addr.add_zero'] at hx160_1)
            replace p160:=eq_true p160
            replace q160:=eq_true q160
            refine start_ (n:=9) (S:=fun w' => w'.cell? ad151 = some (.int .u64 ((rd_T25 x0_1 0).f0)) ∧ w'.cell? ⟨ad151.block,ad151.off + 1,none⟩ = some (.int .u64 ((rd_T25 x0_1 0).f1)) ∧ w'.cell? ad152 = some (.int .u64 ((rd_T25 x1_1 0).f0)) ∧ w'.cell? ⟨ad152.block,ad152.off + 1,none⟩ = some (.int .u64 ((rd_T25 x1_1 0).f1))) (ds:=[]) #[false,false,false,false,false,false,false,false,false] (by kernel_rfl) rfl rfl ⟨hx159_0,hx159_1,hx160_0,hx160_1⟩ (fun hHeld => ?_);refine with_tabW span_Both.tab5 span_Both.bits5 (fun HT_ HW_ => ?_)
            generalize w24.drew = w25 at HO_0 HO_1 HO158 BK155 HB hx159_0 hx159_1 hx160_0 hx160_1 hHeld ⊢
            refine pure_ (i:=0) (N:=some 42) (v:=?_) (a':=?_) #[true,false,false,false,false,false,false,false,false] rfl rfl (any_of HT_.out (by kernel_rfl)) (fun _ _ _ h => h) (Or.inl ⟨by rfl,?_⟩) ?_ ?_
            rotate_left
            ·intro w'
             go_simp
             with_reducible rfl
            rotate_left
            ·simp only [Act.put,List.setIfInBounds_toArray,List.set_cons_zero,List.set_cons_succ,i64_w,i32_w]
             rfl
            refine pure_ (i:=1) (N:=some 43) (v:=?_) (a':=?_) #[true,true,false,false,false,false,false,false,false] rfl rfl (any_of HT_.out (by kernel_rfl)) (fun _ _ _ h => h) (Or.inl ⟨by rfl,?_⟩) ?_ ?_
            rotate_left
            ·intro w'
             go_simp
             with_reducible rfl
            rotate_left
            ·simp only [Act.put,List.setIfInBounds_toArray,List.set_cons_zero,List.set_cons_succ,i64_w,i32_w]
             rfl
            refine pure_ (i:=2) (N:=some 44) (v:=?_) (a':=?_) #[true,true,true,false,false,false,false,false,false] rfl rfl (any_of HT_.out (by kernel_rfl)) (fun _ _ _ h => h) (Or.inl ⟨by rfl,?_⟩) ?_ ?_
            rotate_left
            ·intro w'
             go_simp
             with_reducible rfl
            rotate_left
            ·simp only [Act.put,List.setIfInBounds_toArray,List.set_cons_zero,List.set_cons_succ,i64_w,i32_w]
             rfl
            refine pure_ (i:=4) (N:=some 46) (v:=?_) (a':=?_) #[true,true,true,false,true,false,false,false,false] rfl rfl (any_of HT_.out (by kernel_rfl)) (fun _ _ _ h => h) (Or.inl ⟨by rfl,?_⟩) ?_ ?_
            rotate_left
            ·intro w'
             go_simp
             with_reducible rfl
            rotate_left
            ·simp only [Act.put,List.setIfInBounds_toArray,List.set_cons_zero,List.set_cons_succ,i64_w,i32_w]
             rfl
            refine pure_ (i:=5) (N:=some 47) (v:=?_) (a':=?_) #[true,true,true,false,true,true,false,false,false] rfl rfl (any_of HT_.out (by kernel_rfl)) (fun _ _ _ h => h) (Or.inl ⟨by rfl,?_⟩) ?_ ?_
            rotate_left
            ·intro w'
             go_simp
             with_reducible rfl
            rotate_left
            ·simp only [Act.put,List.setIfInBounds_toArray,List.set_cons_zero,List.set_cons_succ,i64_w,i32_w]
             rfl
            refine pure_ (i:=6) (N:=some 48) (v:=?_) (a':=?_) #[true,true,true,false,true,true,true,false,false] rfl rfl (any_of HT_.out (by kernel_rfl)) (fun _ _ _ h => h) (Or.inl ⟨by rfl,?_⟩) ?_ ?_
            rotate_left
            ·intro w'
             go_simp
             with_reducible rfl
            rotate_left
            ·simp only [Act.put,List.setIfInBounds_toArray,List.set_cons_zero,List.set_cons_succ,i64_w,i32_w]
             rfl
            refine take_ (i:=3) (N:=some 45) (v:=?_) (a':=?_) #[true,true,true,true,true,true,true,false,false] rfl rfl (take_ofW HT_.out HW_.out (by kernel_rfl)) (fun _ _ _ h => h) (Or.inl ⟨by rfl,?_⟩) hHeld ?_ ?_
            rotate_left
            ·rintro w' ⟨s0,s1,s2,s3⟩
             go_simp
             with_reducible rfl
            rotate_left
            ·simp only [Act.put,List.setIfInBounds_toArray,List.set_cons_zero,List.set_cons_succ,i64_w,i32_w]
             rfl
            refine take_ (i:=7) (N:=some 49) (v:=?_) (a':=?_) #[true,true,true,true,true,true,true,true,false] rfl rfl (take_ofW HT_.out HW_.out (by kernel_rfl)) (fun _ _ _ h => h) (Or.inl ⟨by rfl,?_⟩) hHeld ?_ ?_
            rotate_left
            ·rintro w' ⟨s0,s1,s2,s3⟩
             go_simp
             with_reducible rfl
            rotate_left
            ·simp only [Act.put,List.setIfInBounds_toArray,List.set_cons_zero,List.set_cons_succ,i64_w,i32_w]
             rfl
            refine pure_ (i:=8) (N:=some 50) (v:=?_) (a':=?_) #[true,true,true,true,true,true,true,true,true] rfl rfl (any_of HT_.out (by kernel_rfl)) (fun _ _ _ h => h) (Or.inl ⟨by rfl,?_⟩) ?_ ?_
            rotate_left
            ·intro w'
             go_simp
             with_reducible rfl
            rotate_left
            ·simp only [Act.put,List.setIfInBounds_toArray,List.set_cons_zero,List.set_cons_succ,i64_w,i32_w]
             rfl
            refine done_ (done_of HT_.out (by kernel_rfl)) ?_
            have q26 : (1 : Int) ≤ ((x0_1.length : Int) : Int):=of_decide_eq_true (by first | (with_reducible assumption) | assumption)
            obtain ⟨i026,hi026,_,hsz26,_⟩:=info_parts info25
            have hroom26 : x0_1.length ≤ co18:=(Kd.V_reads' HO_0.out).2.1
            have hC26 : Kd.F k25 _ _ (some ad151) x0_1.length x0_1:=(Kd.V_at (base:=w.heap.size) HO_0.out).2.2
            have hcut26:=cut_from (P:=Try.prog) 22 25 .i64 Try.underlying22 hi026 2 hsz26 (some ad151) x0_1.length co18 1 (by omega) q26
            have hr26:=Kd.F_cut (m:=(1 : Int).toNat) (c:=co18) hC26 (by omega) hroom26
            obtain ⟨A26,hA26⟩ : ∃ A1,A1 = (if co18 = (1 : Int).toNat then (some ad151) else ((some ad151) : Option Addr).map (·.add ((1 : Int).toNat * 2))):=⟨_,rfl⟩
            obtain ⟨c26,hc26⟩ : ∃ c1,c1 = co18 - (1 : Int).toNat:=⟨_,rfl⟩
            have hy26 : y161.length = x0_1.length - (1 : Int).toNat:=(by rw [Ny161.out,List.length_drop] <;> omega)
            rw [show (x0_1).drop (1 : Int).toNat = y161 from Ny161.out.symm] at hr26
            replace hr26 : Kd.F k25 _ _ A26 y161.length y161:=(by rw [hA26];exact hr26)
            rw [← hy26,← hA26,← hc26] at hcut26
            have HO165:=Aside0.mk (show Kd.V k25 25 _ w.heap.size _ (.slice A26 y161.length c26) y161 from Kd.V_mk (by rw [hy26,hc26];exact Nat.sub_le_sub_right hroom26 _) hr26)
            have HC165:=Aside0.mk (show y161.length ≤ c26 from by rw [hy26,hc26];exact Nat.sub_le_sub_right hroom26 _)
            clear hr26 hC26 hroom26 hi026 hsz26 hc26
            have KY26:=Aside0.mk hy26
            have KA26:=Aside0.mk hA26
            clear hy26 hA26
            replace q26:=eq_true q26
            try go_wp2
            go_roundg kj2
            case measure => have:=HK1.out;have:=HJ2.out;omega
            case rel => exact ⟨(y161),(x1_1),(y156),H',⟨by have:=HK1.out;have:=HJ2.out;omega⟩,⟨by (with_reducible repeat (first | apply Kd.V_alloc | apply Kd.V_drewN | apply Kd.V_drew));exact Kd.V_mono HO165.out (fun _ hk => ⟨hk.1.1,hk.2⟩)⟩,⟨by (with_reducible repeat (first | apply Kd.V_alloc | apply Kd.V_drewN | apply Kd.V_drew));exact Kd.V_mono HO_1.out (fun _ hk => ⟨hk.1.1,hk.2⟩)⟩,⟨by (with_reducible repeat (first | apply Kd.R_alloc | apply Kd.R_drewN | apply Kd.R_drew));exact Kd.R_mono HO158.out (fun _ hk => hk.1)⟩,⟨by repeat (first | (with_reducible first | exact HB.out | apply below_alloc | apply pw_below_drewN | apply below_drew1 | refine below_set ?_ GE155.out) | exact HB.out)⟩⟩
           ·rw [if_neg c16] at H
            exact absurd H (by simp)
          ·rw [if_neg c15] at H
           have c15b0 : decide (((rd_T25 x0_1 0).f1) < ((rd_T25 x1_1 0).f1)) = false:=decide_eq_false c15
           clear c15
           by_cases c27 : 1 ≤ (x1_1.length : Int)
           ·rw [if_pos c27] at H
            have c27b0:=eq_true c27
            have c27b1 : decide (1 ≤ (x1_1.length : Int)) = true:=decide_eq_true c27
            clear c27
            obtain ⟨y166,hy166⟩ : ∃ y_ : List (S25),y_ = (x1_1.drop 1):=⟨_,rfl⟩
            replace H : (span_Both.l0 kj2 x0_1 y166 y156) = some r:=by first | (rw [hy166];with_reducible exact H) | (have H2_:=(Option.bind_some _ _).symm.trans H;rw [hy166];with_reducible exact H2_) | (have H2_:=(Option.bind_some _ _).symm.trans H;with_reducible exact H2_) | with_reducible exact H | (rw [hy166];exact H) | exact H
            have Ny166:=Aside0.mk hy166
            clear hy166
            have H':=Aside0.mk H
            clear H
            try go_wp2
            have n0_:=Aside0.mk (Kd.V_drew HO_0.out)
            have n1_:=Aside0.mk (Kd.V_drew HO_1.out)
            have n2_:=Aside0.mk (Kd.R_drew HO_4.out)
            have n3_:=Aside0.mk (below_drew1 HB.out)
            clear HO_0
            clear HO_1
            clear HO_4
            clear HB
            have HO_0:=n0_
            have HO_1:=n1_
            have HO_4:=n2_
            have HB:=n3_
            clear n0_ n1_ n2_ n3_
            obtain ⟨Ao29,co29,eo29⟩:=Kd.V_slice HO_0.out
            (first | subst eo29 | (injection eo29 with f1_ f2_ f3_;have f4_:=f1_.symm;have f5_:=f3_.symm;clear f1_ f2_ f3_;subst f4_;subst f5_))
            have p151 : 0 ≤ (0 : Int):=(by omega)
            have q151 : 0 < (x0_1.length : Int):=of_decide_eq_true (by first | (with_reducible assumption) | assumption)
            obtain ⟨ad151,e151,hx151_0,hx151_1⟩:=at_T25 (Kd.V_reads' HO_0.out).2.2 0 p151 q151
            cases e151
            have qi151 : (0 < x0_1.length) = True:=eq_true (by omega)
            (try rw [show ((0 : Int)).toNat = 0 from rfl] at hx151_0)
            (try rw [show 0 * 2 = 0 from rfl] at hx151_0)
            (try rw [Addr.add_zero'] at hx151_0)
            (try rw [show ((0 : Int)).toNat = 0 from rfl] at hx151_1)
            (try rw [show 0 * 2 = 0 from rfl] at hx151_1)
            (try rw [Addr.add_zero'] at hx151_1)
            replace p151:=eq_true p151
            replace q151:=eq_true q151
            obtain ⟨Ao30,co30,eo30⟩:=Kd.V_slice HO_1.out
            (first | subst eo30 | (injection eo30 with f1_ f2_ f3_;have f4_:=f1_.symm;have f5_:=f3_.symm;clear f1_ f2_ f3_;subst f4_;subst f5_))
            have p152 : 0 ≤ (0 : Int):=(by omega)
            have q152 : 0 < (x1_1.length : Int):=of_decide_eq_true (by first | (with_reducible assumption) | assumption)
            obtain ⟨ad152,e152,hx152_0,hx152_1⟩:=at_T25 (Kd.V_reads' HO_1.out).2.2 0 p152 q152
            cases e152
            have qi152 : (0 < x1_1.length) = True:=eq_true (by omega)
            (try rw [show ((0 : Int)).toNat = 0 from rfl] at hx152_0)
            (try rw [show 0 * 2 = 0 from rfl] at hx152_0)
            (try rw [Addr.add_zero'] at hx152_0)
            (try rw [show ((0 : Int)).toNat = 0 from rfl] at hx152_1)
            (try rw [show 0 * 2 = 0 from rfl] at hx152_1)
            (try rw [Addr.add_zero'] at hx152_1)
            replace p152:=eq_true p152
            replace q152:=eq_true q152
            have p153 : 0 ≤ (0 : Int):=(by omega)
            have q153 : 0 < (x0_1.length : Int):=of_decide_eq_true (by first | (with_reducible assumption) | assumption)
            obtain ⟨ad153,e153,hx153_0,hx153_1⟩:=at_T25 (Kd.V_reads' HO_0.out).2.2 0 p153 q153
            obtain rfl : ad151 = ad153:=(by injection e153)
            have qi153 : (0 < x0_1.length) = True:=eq_true (by omega)
            (try rw [show ((0 : Int)).toNat = 0 from rfl] at hx153_0)
            (try rw [show 0 * 2 = 0 from rfl] at hx153_0)
            (try rw [Addr.add_zero'] at hx153_0)
            (try rw [show ((0 : Int)).toNat = 0 from rfl] at hx153_1)
            (try rw [show 0 * 2 = 0 from rfl] at hx153_1)
            (try rw [Addr.add_zero'] at hx153_1)
            replace p153:=eq_true p153
            replace q153:=eq_true q153
            have p154 : 0 ≤ (0 : Int):=(by omega)
            have q154 : 0 < (x1_1.length : Int):=of_decide_eq_true (by first | (with_reducible assumption) | assumption)
            obtain ⟨ad154,e154,hx154_0,hx154_1⟩:=at_T25 (Kd.V_reads' HO_1.out).2.2 0 p154 q154
            obtain rfl : ad152 = ad154:=(by injection e154)
            have qi154 : (0 < x1_1.length) = True:=eq_true (by omega)
            (try rw [show ((0 : Int)).toNat = 0 from rfl] at hx154_0)
            (try rw [show 0 * 2 = 0 from rfl] at hx154_0)
            (try rw [Addr.add_zero'] at hx154_0)
            (try rw [show ((0 : Int)).toNat = 0 from rfl] at hx154_1)
            (try rw [show 0 * 2 = 0 from rfl] at hx154_1)
            (try rw [Addr.add_zero'] at hx154_1)
            replace p154:=eq_true p154
            replace q154:=eq_true q154
            refine start_ (n:=21) (S:=fun w' => w'.cell? ad151 = some (.int .u64 ((rd_T25 x0_1 0).f0)) ∧ w'.cell? ⟨ad151.block,ad151.off + 1,none⟩ = some (.int .u64 ((rd_T25 x0_1 0).f1)) ∧ w'.cell? ad152 = some (.int .u64 ((rd_T25 x1_1 0).f0)) ∧ w'.cell? ⟨ad152.block,ad152.off + 1,none⟩ = some (.int .u64 ((rd_T25 x1_1 0).f1)) ∧ w'.cell? ad151 = some (.int .u64 ((rd_T25 x0_1 0).f0)) ∧ w'.cell? ⟨ad151.block,ad151.off + 1,none⟩ = some (.int .u64 ((rd_T25 x0_1 0).f1)) ∧ w'.cell? ad152 = some (.int .u64 ((rd_T25 x1_1 0).f0)) ∧ w'.cell? ⟨ad152.block,ad152.off + 1,none⟩ = some (.int .u64 ((rd_T25 x1_1 0).f1))) (ds:=[]) #[false,false,false,false,false,false,false,false,false,false,false,false,false,false,false,false,false,false,false,false,false] (by kernel_rfl) rfl rfl ⟨hx151_0,hx151_1,hx152_0,hx152_1,hx153_0,hx153_1,hx154_0,hx154_1⟩ (fun hHeld => ?_);refine with_tabW span_Both.tab2 span_Both.bits2 (fun HT_ HW_ => ?_)
            generalize wc.drew = w28 at HO_0 HO_1 HO_4 HB hx151_0 hx151_1 hx152_0 hx152_1 hx153_0 hx153_1 hx154_0 hx154_1 hHeld ⊢
            refine pure_ (i:=0) (N:=some 14) (v:=?_) (a':=?_) #[true,false,false,false,false,false,false,false,false,false,false,false,false,false,false,false,false,false,false,false,false] rfl rfl (any_of HT_.out (by kernel_rfl)) (fun _ _ _ h => h) (Or.inl ⟨by rfl,?_⟩) ?_ ?_
            rotate_left
            ·intro w'
             go_simp
             with_reducible rfl
            rotate_left
            ·simp only [Act.put,List.setIfInBounds_toArray,List.set_cons_zero,List.set_cons_succ,i64_w,i32_w]
             rfl
            refine pure_ (i:=1) (N:=some 15) (v:=?_) (a':=?_) #[true,true,false,false,false,false,false,false,false,false,false,false,false,false,false,false,false,false,false,false,false] rfl rfl (any_of HT_.out (by kernel_rfl)) (fun _ _ _ h => h) (Or.inl ⟨by rfl,?_⟩) ?_ ?_
            rotate_left
            ·intro w'
             go_simp
             with_reducible rfl
            rotate_left
            ·simp only [Act.put,List.setIfInBounds_toArray,List.set_cons_zero,List.set_cons_succ,i64_w,i32_w]
             rfl
            refine pure_ (i:=2) (N:=some 16) (v:=?_) (a':=?_) #[true,true,true,false,false,false,false,false,false,false,false,false,false,false,false,false,false,false,false,false,false] rfl rfl (any_of HT_.out (by kernel_rfl)) (fun _ _ _ h => h) (Or.inl ⟨by rfl,?_⟩) ?_ ?_
            rotate_left
            ·intro w'
             go_simp
             with_reducible rfl
            rotate_left
            ·simp only [Act.put,List.setIfInBounds_toArray,List.set_cons_zero,List.set_cons_succ,i64_w,i32_w]
             rfl
            refine pure_ (i:=4) (N:=some 18) (v:=?_) (a':=?_) #[true,true,true,false,true,false,false,false,false,false,false,false,false,false,false,false,false,false,false,false,false] rfl rfl (any_of HT_.out (by kernel_rfl)) (fun _ _ _ h => h) (Or.inl ⟨by rfl,?_⟩) ?_ ?_
            rotate_left
            ·intro w'
             go_simp
             with_reducible rfl
            rotate_left
            ·simp only [Act.put,List.setIfInBounds_toArray,List.set_cons_zero,List.set_cons_succ,i64_w,i32_w]
             rfl
            refine pure_ (i:=5) (N:=some 19) (v:=?_) (a':=?_) #[true,true,true,false,true,true,false,false,false,false,false,false,false,false,false,false,false,false,false,false,false] rfl rfl (any_of HT_.out (by kernel_rfl)) (fun _ _ _ h => h) (Or.inl ⟨by rfl,?_⟩) ?_ ?_
            rotate_left
            ·intro w'
             go_simp
             with_reducible rfl
            rotate_left
            ·simp only [Act.put,List.setIfInBounds_toArray,List.set_cons_zero,List.set_cons_succ,i64_w,i32_w]
             rfl
            refine pure_ (i:=6) (N:=some 20) (v:=?_) (a':=?_) #[true,true,true,false,true,true,true,false,false,false,false,false,false,false,false,false,false,false,false,false,false] rfl rfl (any_of HT_.out (by kernel_rfl)) (fun _ _ _ h => h) (Or.inl ⟨by rfl,?_⟩) ?_ ?_
            rotate_left
            ·intro w'
             go_simp
             with_reducible rfl
            rotate_left
            ·simp only [Act.put,List.setIfInBounds_toArray,List.set_cons_zero,List.set_cons_succ,i64_w,i32_w]
             rfl
            refine pure_ (i:=9) (N:=some 23) (v:=?_) (a':=?_) #[true,true,true,false,true,true,true,false,false,true,false,false,false,false,false,false,false,false,false,false,false] rfl rfl (any_of HT_.out (by kernel_rfl)) (fun _ _ _ h => h) (Or.inl ⟨by rfl,?_⟩) ?_ ?_
            rotate_left
            ·intro w'
             go_simp
             with_reducible rfl
            rotate_left
            ·simp only [Act.put,List.setIfInBounds_toArray,List.set_cons_zero,List.set_cons_succ,i64_w,i32_w]
             rfl
            refine pure_ (i:=10) (N:=some 24) (v:=?_) (a':=?_) #[true,true,true,false,true,true,true,false,false,true,true,false,false,false,false,false,false,false,false,false,false] rfl rfl (any_of HT_.out (by kernel_rfl)) (fun _ _ _ h => h) (Or.inl ⟨by rfl,?_⟩) ?_ ?_
            rotate_left
            ·intro w'
             go_simp
             with_reducible rfl
            rotate_left
            ·simp only [Act.put,List.setIfInBounds_toArray,List.set_cons_zero,List.set_cons_succ,i64_w,i32_w]
             rfl
            refine pure_ (i:=11) (N:=some 25) (v:=?_) (a':=?_) #[true,true,true,false,true,true,true,false,false,true,true,true,false,false,false,false,false,false,false,false,false] rfl rfl (any_of HT_.out (by kernel_rfl)) (fun _ _ _ h => h) (Or.inl ⟨by rfl,?_⟩) ?_ ?_
            rotate_left
            ·intro w'
             go_simp
             with_reducible rfl
            rotate_left
            ·simp only [Act.put,List.setIfInBounds_toArray,List.set_cons_zero,List.set_cons_succ,i64_w,i32_w]
             rfl
            refine pure_ (i:=13) (N:=some 27) (v:=?_) (a':=?_) #[true,true,true,false,true,true,true,false,false,true,true,true,false,true,false,false,false,false,false,false,false] rfl rfl (any_of HT_.out (by kernel_rfl)) (fun _ _ _ h => h) (Or.inl ⟨by rfl,?_⟩) ?_ ?_
            rotate_left
            ·intro w'
             go_simp
             with_reducible rfl
            rotate_left
            ·simp only [Act.put,List.setIfInBounds_toArray,List.set_cons_zero,List.set_cons_succ,i64_w,i32_w]
             rfl
            refine pure_ (i:=14) (N:=some 28) (v:=?_) (a':=?_) #[true,true,true,false,true,true,true,false,false,true,true,true,false,true,true,false,false,false,false,false,false] rfl rfl (any_of HT_.out (by kernel_rfl)) (fun _ _ _ h => h) (Or.inl ⟨by rfl,?_⟩) ?_ ?_
            rotate_left
            ·intro w'
             go_simp
             with_reducible rfl
            rotate_left
            ·simp only [Act.put,List.setIfInBounds_toArray,List.set_cons_zero,List.set_cons_succ,i64_w,i32_w]
             rfl
            refine pure_ (i:=15) (N:=some 29) (v:=?_) (a':=?_) #[true,true,true,false,true,true,true,false,false,true,true,true,false,true,true,true,false,false,false,false,false] rfl rfl (any_of HT_.out (by kernel_rfl)) (fun _ _ _ h => h) (Or.inl ⟨by rfl,?_⟩) ?_ ?_
            rotate_left
            ·intro w'
             go_simp
             with_reducible rfl
            rotate_left
            ·simp only [Act.put,List.setIfInBounds_toArray,List.set_cons_zero,List.set_cons_succ,i64_w,i32_w]
             rfl
            refine take_ (i:=3) (N:=some 17) (v:=?_) (a':=?_) #[true,true,true,true,true,true,true,false,false,true,true,true,false,true,true,true,false,false,false,false,false] rfl rfl (take_ofW HT_.out HW_.out (by kernel_rfl)) (fun _ _ _ h => h) (Or.inl ⟨by rfl,?_⟩) hHeld ?_ ?_
            rotate_left
            ·rintro w' ⟨s0,s1,s2,s3,s4,s5,s6,s7⟩
             go_simp
             with_reducible rfl
            rotate_left
            ·simp only [Act.put,List.setIfInBounds_toArray,List.set_cons_zero,List.set_cons_succ,i64_w,i32_w]
             rfl
            refine take_ (i:=7) (N:=some 21) (v:=?_) (a':=?_) #[true,true,true,true,true,true,true,true,false,true,true,true,false,true,true,true,false,false,false,false,false] rfl rfl (take_ofW HT_.out HW_.out (by kernel_rfl)) (fun _ _ _ h => h) (Or.inl ⟨by rfl,?_⟩) hHeld ?_ ?_
            rotate_left
            ·rintro w' ⟨s0,s1,s2,s3,s4,s5,s6,s7⟩
             go_simp
             with_reducible rfl
            rotate_left
            ·simp only [Act.put,List.setIfInBounds_toArray,List.set_cons_zero,List.set_cons_succ,i64_w,i32_w]
             rfl
            refine pure_ (i:=8) (N:=some 22) (v:=?_) (a':=?_) #[true,true,true,true,true,true,true,true,true,true,true,true,false,true,true,true,false,false,false,false,false] rfl rfl (any_of HT_.out (by kernel_rfl)) (fun _ _ _ h => h) (Or.inl ⟨by rfl,?_⟩) ?_ ?_
            rotate_left
            ·intro w'
             go_simp
             with_reducible rfl
            rotate_left
            ·simp only [Act.put,List.setIfInBounds_toArray,List.set_cons_zero,List.set_cons_succ,i64_w,i32_w]
             rfl
            refine take_ (i:=12) (N:=some 26) (v:=?_) (a':=?_) #[true,true,true,true,true,true,true,true,true,true,true,true,true,true,true,true,false,false,false,false,false] rfl rfl (take_ofW HT_.out HW_.out (by kernel_rfl)) (fun _ _ _ h => h) (Or.inl ⟨by rfl,?_⟩) hHeld ?_ ?_
            rotate_left
            ·rintro w' ⟨s0,s1,s2,s3,s4,s5,s6,s7⟩
             go_simp
             with_reducible rfl
            rotate_left
            ·simp only [Act.put,List.setIfInBounds_toArray,List.set_cons_zero,List.set_cons_succ,i64_w,i32_w]
             rfl
            refine take_ (i:=16) (N:=some 30) (v:=?_) (a':=?_) #[true,true,true,true,true,true,true,true,true,true,true,true,true,true,true,true,true,false,false,false,false] rfl rfl (take_ofW HT_.out HW_.out (by kernel_rfl)) (fun _ _ _ h => h) (Or.inl ⟨by rfl,?_⟩) hHeld ?_ ?_
            rotate_left
            ·rintro w' ⟨s0,s1,s2,s3,s4,s5,s6,s7⟩
             go_simp
             with_reducible rfl
            rotate_left
            ·simp only [Act.put,List.setIfInBounds_toArray,List.set_cons_zero,List.set_cons_succ,i64_w,i32_w]
             rfl
            refine pure_ (i:=17) (N:=some 31) (v:=?_) (a':=?_) #[true,true,true,true,true,true,true,true,true,true,true,true,true,true,true,true,true,true,false,false,false] rfl rfl (any_of HT_.out (by kernel_rfl)) (fun _ _ _ h => h) (Or.inl ⟨by rfl,?_⟩) ?_ ?_
            rotate_left
            ·intro w'
             go_simp
             with_reducible rfl
            rotate_left
            ·simp only [Act.put,List.setIfInBounds_toArray,List.set_cons_zero,List.set_cons_succ,i64_w,i32_w]
             rfl
            refine pure_ (i:=18) (N:=some 32) (v:=?_) (a':=?_) #[true,true,true,true,true,true,true,true,true,true,true,true,true,true,true,true,true,true,true,false,false] rfl rfl (any_of HT_.out (by kernel_rfl)) (fun _ _ _ h => h) (Or.inl ⟨by rfl,?_⟩) ?_ ?_
            rotate_left
            ·intro w'
             go_simp
             with_reducible rfl
            rotate_left
            ·simp only [Act.put,List.setIfInBounds_toArray,List.set_cons_zero,List.set_cons_succ,i64_w,i32_w]
             rfl
            refine one_ (i:=19) (N:=some 5) #[true,true,true,true,true,true,true,true,true,true,true,true,true,true,true,true,true,true,true,true,false] rfl rfl (one_of HT_.out (by kernel_rfl)) (by decide) (fun K hK => ?_)
            refine box_step ?hg (N:=5) ?hd (cs:=#[.int .u64 0,.int .u64 0]) (t:=25) ?hr ?_;(case hd => rfl);(case hg => rfl);(case hr => first | (go_simp;done) | (go_simp;rfl))
            intro gb155 hg w31 hbox hb
            have HS0_:=(hb.cell (World.block_lt_of_cell? _ _ (hHeld.1))).trans (hHeld.1)
            have HS1_:=(hb.cell (World.block_lt_of_cell? _ _ (hHeld.2.1))).trans (hHeld.2.1)
            have HS2_:=(hb.cell (World.block_lt_of_cell? _ _ (hHeld.2.2.1))).trans (hHeld.2.2.1)
            have HS3_:=(hb.cell (World.block_lt_of_cell? _ _ (hHeld.2.2.2.1))).trans (hHeld.2.2.2.1)
            have HS4_:=(hb.cell (World.block_lt_of_cell? _ _ (hHeld.2.2.2.2.1))).trans (hHeld.2.2.2.2.1)
            have HS5_:=(hb.cell (World.block_lt_of_cell? _ _ (hHeld.2.2.2.2.2.1))).trans (hHeld.2.2.2.2.2.1)
            have HS6_:=(hb.cell (World.block_lt_of_cell? _ _ (hHeld.2.2.2.2.2.2.1))).trans (hHeld.2.2.2.2.2.2.1)
            have HS7_:=(hb.cell (World.block_lt_of_cell? _ _ (hHeld.2.2.2.2.2.2.2))).trans (hHeld.2.2.2.2.2.2.2)
            have n0_:=Aside0.mk (Kd.V_below (Kd.V_elderB (by (with_reducible repeat (first | apply Kd.V_alloc | apply Kd.V_drewN | apply Kd.V_drew));exact HO_0.out) gb155 (Nat.le_of_eq hg.symm)) hb)
            have n1_:=Aside0.mk (Kd.V_below (Kd.V_elderB (by (with_reducible repeat (first | apply Kd.V_alloc | apply Kd.V_drewN | apply Kd.V_drew));exact HO_1.out) gb155 (Nat.le_of_eq hg.symm)) hb)
            have n2_:=Aside0.mk (Kd.R_below (Kd.R_elderB (by (with_reducible repeat (first | apply Kd.R_alloc | apply Kd.R_drewN | apply Kd.R_drew));exact HO_4.out) gb155 (Nat.le_of_eq hg.symm)) hb)
            have n3_:=Aside0.mk (below_step (by repeat (first | (with_reducible first | exact HB.out | apply below_alloc | apply pw_below_drewN | apply below_drew1) | exact HB.out)) hb)
            have n4_:=Aside0.mk (hbox)
            have n5_:=Aside0.mk ((by rw [hg];exact (below_size (by repeat (first | (with_reducible first | exact HB.out | apply below_alloc | apply pw_below_drewN | apply below_drew1) | exact HB.out))) : w.heap.size ≤ gb155))
            have n6_:=Aside0.mk ((by rw [hg];exact (below_size (by repeat (first | (with_reducible first | exact HB.out | apply below_alloc | apply pw_below_drewN | apply below_drew1) | exact HB.out))) : w.heap.size ≤ gb155))
            clear HO_0
            clear HO_1
            clear HO_4
            clear HB
            have HO_0:=n0_
            have HO_1:=n1_
            have HO_4:=n2_
            have HB:=n3_
            have BK155:=n4_
            have GW155:=n5_
            have GE155:=n6_
            clear n0_ n1_ n2_ n3_ n4_ n5_ n6_
            clear hb hbox hg
            refine hK.out _ _ ⟨HS0_,HS1_,HS2_,HS3_,HS4_,HS5_,HS6_,HS7_⟩ (fun hHeld => ?_)
            clear hK K
            refine norm_ (a':=?_) ?_ ?_
            rotate_left
            ·show Act.put _ (some 5) _ = _
             simp only [Act.put,List.setIfInBounds_toArray,List.set_cons_zero,List.set_cons_succ,i64_w,i32_w]
             rfl
            refine one_ (i:=20) (N:=none) #[true,true,true,true,true,true,true,true,true,true,true,true,true,true,true,true,true,true,true,true,true] rfl rfl (one_of HT_.out (by kernel_rfl)) (by decide) (fun K hK => ?_)
            have hs32 : w31.cell? ⟨gb155,0,none⟩ = some (.int .u64 0):=(blk_cell BK155.out 0).trans rfl
            have hfs32:=blk_frozen BK155.out 0
            have hs33 : w31.cell? ⟨gb155,1,none⟩ = some (.int .u64 0):=(blk_cell BK155.out 1).trans rfl
            have hfs33:=blk_frozen BK155.out 1
            refine skip_ (w1:=?_) (by rfl) rfl ?_ ?_
            rotate_left
            ·go_simp
             rfl
            refine hK.out _ _ ⟨((cell_far (p:=⟨gb155,_,none⟩) (by first | exact V_blk HO_0.out (fun _ hk => hk.2) (by decide) (of_decide_eq_true (by assumption)) | (rw [add_block];exact V_blk HO_0.out (fun _ hk => hk.2) (by decide) (of_decide_eq_true (by assumption))) | (show (Addr.add _ _).block ≠ _;rw [add_block];exact V_blk HO_0.out (fun _ hk => hk.2) (by decide) (of_decide_eq_true (by assumption))) | (dsimp only;exact V_blk HO_0.out (fun _ hk => hk.2) (by decide) (of_decide_eq_true (by assumption)))) _).trans (((cell_far (p:=⟨gb155,_,none⟩) (by first | exact V_blk HO_0.out (fun _ hk => hk.2) (by decide) (of_decide_eq_true (by assumption)) | (rw [add_block];exact V_blk HO_0.out (fun _ hk => hk.2) (by decide) (of_decide_eq_true (by assumption))) | (show (Addr.add _ _).block ≠ _;rw [add_block];exact V_blk HO_0.out (fun _ hk => hk.2) (by decide) (of_decide_eq_true (by assumption))) | (dsimp only;exact V_blk HO_0.out (fun _ hk => hk.2) (by decide) (of_decide_eq_true (by assumption)))) _).trans (hHeld.1)))),((cell_far (p:=⟨gb155,_,none⟩) (by first | exact V_blk HO_0.out (fun _ hk => hk.2) (by decide) (of_decide_eq_true (by assumption)) | (rw [add_block];exact V_blk HO_0.out (fun _ hk => hk.2) (by decide) (of_decide_eq_true (by assumption))) | (show (Addr.add _ _).block ≠ _;rw [add_block];exact V_blk HO_0.out (fun _ hk => hk.2) (by decide) (of_decide_eq_true (by assumption))) | (dsimp only;exact V_blk HO_0.out (fun _ hk => hk.2) (by decide) (of_decide_eq_true (by assumption)))) _).trans (((cell_far (p:=⟨gb155,_,none⟩) (by first | exact V_blk HO_0.out (fun _ hk => hk.2) (by decide) (of_decide_eq_true (by assumption)) | (rw [add_block];exact V_blk HO_0.out (fun _ hk => hk.2) (by decide) (of_decide_eq_true (by assumption))) | (show (Addr.add _ _).block ≠ _;rw [add_block];exact V_blk HO_0.out (fun _ hk => hk.2) (by decide) (of_decide_eq_true (by assumption))) | (dsimp only;exact V_blk HO_0.out (fun _ hk => hk.2) (by decide) (of_decide_eq_true (by assumption)))) _).trans (hHeld.2.1)))),((cell_far (p:=⟨gb155,_,none⟩) (by first | exact V_blk HO_1.out (fun _ hk => hk.2) (by decide) (of_decide_eq_true (by assumption)) | (rw [add_block];exact V_blk HO_1.out (fun _ hk => hk.2) (by decide) (of_decide_eq_true (by assumption))) | (show (Addr.add _ _).block ≠ _;rw [add_block];exact V_blk HO_1.out (fun _ hk => hk.2) (by decide) (of_decide_eq_true (by assumption))) | (dsimp only;exact V_blk HO_1.out (fun _ hk => hk.2) (by decide) (of_decide_eq_true (by assumption)))) _).trans (((cell_far (p:=⟨gb155,_,none⟩) (by first | exact V_blk HO_1.out (fun _ hk => hk.2) (by decide) (of_decide_eq_true (by assumption)) | (rw [add_block];exact V_blk HO_1.out (fun _ hk => hk.2) (by decide) (of_decide_eq_true (by assumption))) | (show (Addr.add _ _).block ≠ _;rw [add_block];exact V_blk HO_1.out (fun _ hk => hk.2) (by decide) (of_decide_eq_true (by assumption))) | (dsimp only;exact V_blk HO_1.out (fun _ hk => hk.2) (by decide) (of_decide_eq_true (by assumption)))) _).trans (hHeld.2.2.1)))),((cell_far (p:=⟨gb155,_,none⟩) (by first | exact V_blk HO_1.out (fun _ hk => hk.2) (by decide) (of_decide_eq_true (by assumption)) | (rw [add_block];exact V_blk HO_1.out (fun _ hk => hk.2) (by decide) (of_decide_eq_true (by assumption))) | (show (Addr.add _ _).block ≠ _;rw [add_block];exact V_blk HO_1.out (fun _ hk => hk.2) (by decide) (of_decide_eq_true (by assumption))) | (dsimp only;exact V_blk HO_1.out (fun _ hk => hk.2) (by decide) (of_decide_eq_true (by assumption)))) _).trans (((cell_far (p:=⟨gb155,_,none⟩) (by first | exact V_blk HO_1.out (fun _ hk => hk.2) (by decide) (of_decide_eq_true (by assumption)) | (rw [add_block];exact V_blk HO_1.out (fun _ hk => hk.2) (by decide) (of_decide_eq_true (by assumption))) | (show (Addr.add _ _).block ≠ _;rw [add_block];exact V_blk HO_1.out (fun _ hk => hk.2) (by decide) (of_decide_eq_true (by assumption))) | (dsimp only;exact V_blk HO_1.out (fun _ hk => hk.2) (by decide) (of_decide_eq_true (by assumption)))) _).trans (hHeld.2.2.2.1)))),((cell_far (p:=⟨gb155,_,none⟩) (by first | exact V_blk HO_0.out (fun _ hk => hk.2) (by decide) (of_decide_eq_true (by assumption)) | (rw [add_block];exact V_blk HO_0.out (fun _ hk => hk.2) (by decide) (of_decide_eq_true (by assumption))) | (show (Addr.add _ _).block ≠ _;rw [add_block];exact V_blk HO_0.out (fun _ hk => hk.2) (by decide) (of_decide_eq_true (by assumption))) | (dsimp only;exact V_blk HO_0.out (fun _ hk => hk.2) (by decide) (of_decide_eq_true (by assumption)))) _).trans (((cell_far (p:=⟨gb155,_,none⟩) (by first | exact V_blk HO_0.out (fun _ hk => hk.2) (by decide) (of_decide_eq_true (by assumption)) | (rw [add_block];exact V_blk HO_0.out (fun _ hk => hk.2) (by decide) (of_decide_eq_true (by assumption))) | (show (Addr.add _ _).block ≠ _;rw [add_block];exact V_blk HO_0.out (fun _ hk => hk.2) (by decide) (of_decide_eq_true (by assumption))) | (dsimp only;exact V_blk HO_0.out (fun _ hk => hk.2) (by decide) (of_decide_eq_true (by assumption)))) _).trans (hHeld.2.2.2.2.1)))),((cell_far (p:=⟨gb155,_,none⟩) (by first | exact V_blk HO_0.out (fun _ hk => hk.2) (by decide) (of_decide_eq_true (by assumption)) | (rw [add_block];exact V_blk HO_0.out (fun _ hk => hk.2) (by decide) (of_decide_eq_true (by assumption))) | (show (Addr.add _ _).block ≠ _;rw [add_block];exact V_blk HO_0.out (fun _ hk => hk.2) (by decide) (of_decide_eq_true (by assumption))) | (dsimp only;exact V_blk HO_0.out (fun _ hk => hk.2) (by decide) (of_decide_eq_true (by assumption)))) _).trans (((cell_far (p:=⟨gb155,_,none⟩) (by first | exact V_blk HO_0.out (fun _ hk => hk.2) (by decide) (of_decide_eq_true (by assumption)) | (rw [add_block];exact V_blk HO_0.out (fun _ hk => hk.2) (by decide) (of_decide_eq_true (by assumption))) | (show (Addr.add _ _).block ≠ _;rw [add_block];exact V_blk HO_0.out (fun _ hk => hk.2) (by decide) (of_decide_eq_true (by assumption))) | (dsimp only;exact V_blk HO_0.out (fun _ hk => hk.2) (by decide) (of_decide_eq_true (by assumption)))) _).trans (hHeld.2.2.2.2.2.1)))),((cell_far (p:=⟨gb155,_,none⟩) (by first | exact V_blk HO_1.out (fun _ hk => hk.2) (by decide) (of_decide_eq_true (by assumption)) | (rw [add_block];exact V_blk HO_1.out (fun _ hk => hk.2) (by decide) (of_decide_eq_true (by assumption))) | (show (Addr.add _ _).block ≠ _;rw [add_block];exact V_blk HO_1.out (fun _ hk => hk.2) (by decide) (of_decide_eq_true (by assumption))) | (dsimp only;exact V_blk HO_1.out (fun _ hk => hk.2) (by decide) (of_decide_eq_true (by assumption)))) _).trans (((cell_far (p:=⟨gb155,_,none⟩) (by first | exact V_blk HO_1.out (fun _ hk => hk.2) (by decide) (of_decide_eq_true (by assumption)) | (rw [add_block];exact V_blk HO_1.out (fun _ hk => hk.2) (by decide) (of_decide_eq_true (by assumption))) | (show (Addr.add _ _).block ≠ _;rw [add_block];exact V_blk HO_1.out (fun _ hk => hk.2) (by decide) (of_decide_eq_true (by assumption))) | (dsimp only;exact V_blk HO_1.out (fun _ hk => hk.2) (by decide) (of_decide_eq_true (by assumption)))) _).trans (hHeld.2.2.2.2.2.2.1)))),((cell_far (p:=⟨gb155,_,none⟩) (by first | exact V_blk HO_1.out (fun _ hk => hk.2) (by decide) (of_decide_eq_true (by assumption)) | (rw [add_block];exact V_blk HO_1.out (fun _ hk => hk.2) (by decide) (of_decide_eq_true (by assumption))) | (show (Addr.add _ _).block ≠ _;rw [add_block];exact V_blk HO_1.out (fun _ hk => hk.2) (by decide) (of_decide_eq_true (by assumption))) | (dsimp only;exact V_blk HO_1.out (fun _ hk => hk.2) (by decide) (of_decide_eq_true (by assumption)))) _).trans (((cell_far (p:=⟨gb155,_,none⟩) (by first | exact V_blk HO_1.out (fun _ hk => hk.2) (by decide) (of_decide_eq_true (by assumption)) | (rw [add_block];exact V_blk HO_1.out (fun _ hk => hk.2) (by decide) (of_decide_eq_true (by assumption))) | (show (Addr.add _ _).block ≠ _;rw [add_block];exact V_blk HO_1.out (fun _ hk => hk.2) (by decide) (of_decide_eq_true (by assumption))) | (dsimp only;exact V_blk HO_1.out (fun _ hk => hk.2) (by decide) (of_decide_eq_true (by assumption)))) _).trans (hHeld.2.2.2.2.2.2.2))))⟩ (fun hHeld => ?_)
            clear hK K
            refine done_ (done_of HT_.out (by kernel_rfl)) ?_
            have hcz34_0 : w31.cell? ⟨gb155,0,none⟩ = some (.int .u64 0):=(blk_cell BK155.out 0).trans rfl
            have hcz34_1 : w31.cell? ⟨gb155,1,none⟩ = some (.int .u64 0):=(blk_cell BK155.out 1).trans rfl
            have hfz34_0:=blk_frozen BK155.out 0
            have hfz34_1:=blk_frozen BK155.out 1
            try go_wp2_with (first | ((with_reducible refine gate_builtin (b:=.append) (xs:=#[.tmp 38,.tmp 40]) rfl ?_);(try (refine gate_guard (by rfl) ?_;dsimp only));at_builtin;refine Kd.R_append k25 (w0:=w) w.heap.size rfl (.tmp 38) (.tmp 40) 22 25 (.agg #[(.int .u64 0),(.int .u64 0)]) 16 rfl Try.underlying22 info25 rfl (by decide) (by omega) u4 x4_1 (⟨ji11,ji12⟩ : S25) [.int .u64 ji11,.int .u64 ji12] (fun k_ => (w.heap.size ≤ k_) ∧ k_ ≠ gb155) (fun _ => False) rfl (by first | (go_simp;done) | (go_simp;rfl)) ?aP (fun _ hk => hk.elim) ?aF ?aO ?aB ?aS ?aL ?_;(case aP => exact k25_mkM _ _ _ (⟨ji11,ji12⟩ : S25));(case aB => exact (by repeat (first | (with_reducible first | exact HB.out | apply below_alloc | apply pw_below_drewN | apply below_drew1 | refine below_set ?_ GE155.out) | exact HB.out)));(case aF => exact (fun k_ hk => ⟨(Nat.le_trans (below_size (by repeat (first | (with_reducible first | exact HB.out | apply below_alloc | apply pw_below_drewN | apply below_drew1 | refine below_set ?_ GE155.out) | exact HB.out))) hk),Kd.freshB (g:=gb155) (o:=.cells #[.int .u64 ji11,.int .u64 ji12] 25 (0,0)) (by (with_reducible repeat (first | refine blk_drewN ?_ _ | refine blk_drew ?_ | refine blk_alloc ?_ _));refine blk_put (cs:=#[.int .u64 ji11,.int .u64 0]) ?_ 1 _ rfl;(with_reducible repeat (first | refine blk_drewN ?_ _ | refine blk_drew ?_ | refine blk_alloc ?_ _));refine blk_put (cs:=#[.int .u64 0,.int .u64 0]) ?_ 0 _ rfl;(with_reducible repeat (first | refine blk_drewN ?_ _ | refine blk_drew ?_ | refine blk_alloc ?_ _));exact BK155.out) k_ hk⟩));(case aO => exact (by (with_reducible repeat (first | apply Kd.R_alloc | apply Kd.R_drewN | apply Kd.R_drew));exact Kd.R_mono (Kd.R_far (p:=⟨gb155,1,none⟩) (Kd.R_far (p:=⟨gb155,0,none⟩) (Kd.R_mono HO_4.out (fun k_ hk => (⟨hk,hk.2⟩ : _ ∧ k_ ≠ gb155))) (fun _ hk => hk.2) (.int .u64 ji11)) (fun _ hk => hk.2) (.int .u64 ji12)) (fun _ hk => ⟨hk.1.1,hk.1.2⟩)));(case aS => exact (below_size (by repeat (first | (with_reducible first | exact HB.out | apply below_alloc | apply pw_below_drewN | apply below_drew1 | refine below_set ?_ GE155.out) | exact HB.out))));(case aL => have:=LMc14.out;omega);intro v157 w35 ho hb hg hat;rw [← Ny156.out] at ho;have n0_:=Aside0.mk (Kd.V_afterv (ok:=(fun k_ => ((P0_ k_ ∨ P1_ k_) ∨ w.heap.size ≤ k_) ∧ k_ ≠ gb155)) (by (with_reducible repeat (first | apply Kd.V_alloc | apply Kd.V_drewN | apply Kd.V_drew));exact Kd.V_mono (Kd.V_far (p:=⟨gb155,1,none⟩) (Kd.V_far (p:=⟨gb155,0,none⟩) (Kd.V_mono HO_0.out (fun k_ hk => (⟨hk,hk.2⟩ : _ ∧ k_ ≠ gb155))) (fun _ hk => hk.2) (.int .u64 ji11)) (fun _ hk => hk.2) (.int .u64 ji12)) (fun _ hk => ⟨⟨hk.1.1.1,hk.1.2⟩,hk.1.1.2⟩)) hg hat);have n1_:=Aside0.mk (Kd.V_afterv (ok:=(fun k_ => ((P0_ k_ ∨ P1_ k_) ∨ w.heap.size ≤ k_) ∧ k_ ≠ gb155)) (by (with_reducible repeat (first | apply Kd.V_alloc | apply Kd.V_drewN | apply Kd.V_drew));exact Kd.V_mono (Kd.V_far (p:=⟨gb155,1,none⟩) (Kd.V_far (p:=⟨gb155,0,none⟩) (Kd.V_mono HO_1.out (fun k_ hk => (⟨hk,hk.2⟩ : _ ∧ k_ ≠ gb155))) (fun _ hk => hk.2) (.int .u64 ji11)) (fun _ hk => hk.2) (.int .u64 ji12)) (fun _ hk => ⟨⟨hk.1.1.1,hk.1.2⟩,hk.1.1.2⟩)) hg hat);have n2_:=Aside0.mk (blk_grown (g:=gb155) (o:=.cells #[.int .u64 ji11,.int .u64 ji12] 25 (0,0)) (by (with_reducible repeat (first | refine blk_drewN ?_ _ | refine blk_drew ?_ | refine blk_alloc ?_ _));refine blk_put (cs:=#[.int .u64 ji11,.int .u64 0]) ?_ 1 _ rfl;(with_reducible repeat (first | refine blk_drewN ?_ _ | refine blk_drew ?_ | refine blk_alloc ?_ _));refine blk_put (cs:=#[.int .u64 0,.int .u64 0]) ?_ 0 _ rfl;(with_reducible repeat (first | refine blk_drewN ?_ _ | refine blk_drew ?_ | refine blk_alloc ?_ _));exact BK155.out) hg (Kd.R_away HO_4.out (fun _ hk => hk.2)));have n3_:=Aside0.mk (hb);have n4_:=Aside0.mk (ho);clear HO_0;clear HO_1;clear BK155;clear HB;clear HO_4;have HO_0:=n0_;have HO_1:=n1_;have BK155:=n2_;have HB:=n3_;have HO158:=n4_;clear n0_ n1_ n2_ n3_ n4_;clear ho hb hg hat))
            have n0_:=Aside0.mk (Kd.V_drew HO_0.out)
            have n1_:=Aside0.mk (Kd.V_drew HO_1.out)
            have n2_:=Aside0.mk (Kd.R_drew HO158.out)
            have n3_:=Aside0.mk (blk_drew BK155.out)
            have n4_:=Aside0.mk (below_drew1 HB.out)
            clear HO_0
            clear HO_1
            clear HO158
            clear BK155
            clear HB
            have HO_0:=n0_
            have HO_1:=n1_
            have HO158:=n2_
            have BK155:=n3_
            have HB:=n4_
            clear n0_ n1_ n2_ n3_ n4_
            have p159 : 0 ≤ (0 : Int):=(by omega)
            have q159 : 0 < (x0_1.length : Int):=of_decide_eq_true (by first | (with_reducible assumption) | assumption)
            obtain ⟨ad159,e159,hx159_0,hx159_1⟩:=at_T25 (Kd.V_reads' HO_0.out).2.2 0 p159 q159
            obtain rfl : ad151 = ad159:=(by injection e159)
            have qi159 : (0 < x0_1.length) = True:=eq_true (by omega)
            (try rw [show ((0 : Int)).toNat = 0 from rfl] at hx159_0)
            (try rw [show 0 * 2 = 0 from rfl] at hx159_0)
            (try rw [Addr.add_zero'] at hx159_0)
            (try rw [show ((0 : Int)).toNat = 0 from rfl] at hx159_1)
            (try rw [show 0 * 2 = 0 from rfl] at hx159_1)
            (try rw [Addr.add_zero'] at hx159_1)
            replace p159:=eq_true p159
            replace q159:=eq_true q159
            have p160 : 0 ≤ (0 : Int):=(by omega)
            have q160 : 0 < (x1_1.length : Int):=of_decide_eq_true (by first | (with_reducible assumption) | assumption)
            obtain ⟨ad160,e160,hx160_0,hx160_1⟩:=at_T25 (Kd.V_reads' HO_1.out).2.2 0 p160 q160
            obtain rfl : ad152 = ad160:=(by injection e160)
            have qi160 : (0 < x1_1.length) = True:=eq_true (by omega)
            (try rw [show ((0 : Int)).toNat = 0 from rfl] at hx160_0)
            (try rw [show 0 * 2 = 0 from rfl] at hx160_0)
            (try rw [Addr.add_zero'] at hx160_0)
            (try rw [show ((0 : Int)).toNat = 0 from rfl] at hx160_1)
            (try rw [show 0 * 2 = 0 from rfl] at hx160_1)
            (try rw [Addr.add_zero'] at hx160_1)
            replace p160:=eq_true p160
            replace q160:=eq_true q160
            refine start_ (n:=9) (S:=fun w' => w'.cell? ad151 = some (.int .u64 ((rd_T25 x0_1 0).f0)) ∧ w'.cell? ⟨ad151.block,ad151.off + 1,none⟩ = some (.int .u64 ((rd_T25 x0_1 0).f1)) ∧ w'.cell? ad152 = some (.int .u64 ((rd_T25 x1_1 0).f0)) ∧ w'.cell? ⟨ad152.block,ad152.off + 1,none⟩ = some (.int .u64 ((rd_T25 x1_1 0).f1))) (ds:=[]) #[false,false,false,false,false,false,false,false,false] (by kernel_rfl) rfl rfl ⟨hx159_0,hx159_1,hx160_0,hx160_1⟩ (fun hHeld => ?_);refine with_tabW span_Both.tab5 span_Both.bits5 (fun HT_ HW_ => ?_)
            generalize w35.drew = w36 at HO_0 HO_1 HO158 BK155 HB hx159_0 hx159_1 hx160_0 hx160_1 hHeld ⊢
            refine pure_ (i:=0) (N:=some 42) (v:=?_) (a':=?_) #[true,false,false,false,false,false,false,false,false] rfl rfl (any_of HT_.out (by kernel_rfl)) (fun _ _ _ h => h) (Or.inl ⟨by rfl,?_⟩) ?_ ?_
            rotate_left
            ·intro w'
             go_simp
             with_reducible rfl
            rotate_left
            ·simp only [Act.put,List.setIfInBounds_toArray,List.set_cons_zero,List.set_cons_succ,i64_w,i32_w]
             rfl
            refine pure_ (i:=1) (N:=some 43) (v:=?_) (a':=?_) #[true,true,false,false,false,false,false,false,false] rfl rfl (any_of HT_.out (by kernel_rfl)) (fun _ _ _ h => h) (Or.inl ⟨by rfl,?_⟩) ?_ ?_
            rotate_left
            ·intro w'
             go_simp
             with_reducible rfl
            rotate_left
            ·simp only [Act.put,List.setIfInBounds_toArray,List.set_cons_zero,List.set_cons_succ,i64_w,i32_w]
             rfl
            refine pure_ (i:=2) (N:=some 44) (v:=?_) (a':=?_) #[true,true,true,false,false,false,false,false,false] rfl rfl (any_of HT_.out (by kernel_rfl)) (fun _ _ _ h => h) (Or.inl ⟨by rfl,?_⟩) ?_ ?_
            rotate_left
            ·intro w'
             go_simp
             with_reducible rfl
            rotate_left
            ·simp only [Act.put,List.setIfInBounds_toArray,List.set_cons_zero,List.set_cons_succ,i64_w,i32_w]
             rfl
            refine pure_ (i:=4) (N:=some 46) (v:=?_) (a':=?_) #[true,true,true,false,true,false,false,false,false] rfl rfl (any_of HT_.out (by kernel_rfl)) (fun _ _ _ h => h) (Or.inl ⟨by rfl,?_⟩) ?_ ?_
            rotate_left
            ·intro w'
             go_simp
             with_reducible rfl
            rotate_left
            ·simp only [Act.put,List.setIfInBounds_toArray,List.set_cons_zero,List.set_cons_succ,i64_w,i32_w]
             rfl
            refine pure_ (i:=5) (N:=some 47) (v:=?_) (a':=?_) #[true,true,true,false,true,true,false,false,false] rfl rfl (any_of HT_.out (by kernel_rfl)) (fun _ _ _ h => h) (Or.inl ⟨by rfl,?_⟩) ?_ ?_
            rotate_left
            ·intro w'
             go_simp
             with_reducible rfl
            rotate_left
            ·simp only [Act.put,List.setIfInBounds_toArray,List.set_cons_zero,List.set_cons_succ,i64_w,i32_w]
             rfl
            refine pure_ (i:=6) (N:=some 48) (v:=?_) (a':=?_) #[true,true,true,false,true,true,true,false,false] rfl rfl (any_of HT_.out (by kernel_rfl)) (fun _ _ _ h => h) (Or.inl ⟨by rfl,?_⟩) ?_ ?_
            rotate_left
            ·intro w'
             go_simp
             with_reducible rfl
            rotate_left
            ·simp only [Act.put,List.setIfInBounds_toArray,List.set_cons_zero,List.set_cons_succ,i64_w,i32_w]
             rfl
            refine take_ (i:=3) (N:=some 45) (v:=?_) (a':=?_) #[true,true,true,true,true,true,true,false,false] rfl rfl (take_ofW HT_.out HW_.out (by kernel_rfl)) (fun _ _ _ h => h) (Or.inl ⟨by rfl,?_⟩) hHeld ?_ ?_
            rotate_left
            ·rintro w' ⟨s0,s1,s2,s3⟩
             go_simp
             with_reducible rfl
            rotate_left
            ·simp only [Act.put,List.setIfInBounds_toArray,List.set_cons_zero,List.set_cons_succ,i64_w,i32_w]
             rfl
            refine take_ (i:=7) (N:=some 49) (v:=?_) (a':=?_) #[true,true,true,true,true,true,true,true,false] rfl rfl (take_ofW HT_.out HW_.out (by kernel_rfl)) (fun _ _ _ h => h) (Or.inl ⟨by rfl,?_⟩) hHeld ?_ ?_
            rotate_left
            ·rintro w' ⟨s0,s1,s2,s3⟩
             go_simp
             with_reducible rfl
            rotate_left
            ·simp only [Act.put,List.setIfInBounds_toArray,List.set_cons_zero,List.set_cons_succ,i64_w,i32_w]
             rfl
            refine pure_ (i:=8) (N:=some 50) (v:=?_) (a':=?_) #[true,true,true,true,true,true,true,true,true] rfl rfl (any_of HT_.out (by kernel_rfl)) (fun _ _ _ h => h) (Or.inl ⟨by rfl,?_⟩) ?_ ?_
            rotate_left
            ·intro w'
             go_simp
             with_reducible rfl
            rotate_left
            ·simp only [Act.put,List.setIfInBounds_toArray,List.set_cons_zero,List.set_cons_succ,i64_w,i32_w]
             rfl
            refine done_ (done_of HT_.out (by kernel_rfl)) ?_
            have q37 : (1 : Int) ≤ ((x1_1.length : Int) : Int):=of_decide_eq_true (by first | (with_reducible assumption) | assumption)
            obtain ⟨i037,hi037,_,hsz37,_⟩:=info_parts info25
            have hroom37 : x1_1.length ≤ co30:=(Kd.V_reads' HO_1.out).2.1
            have hC37 : Kd.F k25 _ _ (some ad152) x1_1.length x1_1:=(Kd.V_at (base:=w.heap.size) HO_1.out).2.2
            have hcut37:=cut_from (P:=Try.prog) 22 25 .i64 Try.underlying22 hi037 2 hsz37 (some ad152) x1_1.length co30 1 (by omega) q37
            have hr37:=Kd.F_cut (m:=(1 : Int).toNat) (c:=co30) hC37 (by omega) hroom37
            obtain ⟨A37,hA37⟩ : ∃ A1,A1 = (if co30 = (1 : Int).toNat then (some ad152) else ((some ad152) : Option Addr).map (·.add ((1 : Int).toNat * 2))):=⟨_,rfl⟩
            obtain ⟨c37,hc37⟩ : ∃ c1,c1 = co30 - (1 : Int).toNat:=⟨_,rfl⟩
            have hy37 : y166.length = x1_1.length - (1 : Int).toNat:=(by rw [Ny166.out,List.length_drop] <;> omega)
            rw [show (x1_1).drop (1 : Int).toNat = y166 from Ny166.out.symm] at hr37
            replace hr37 : Kd.F k25 _ _ A37 y166.length y166:=(by rw [hA37];exact hr37)
            rw [← hy37,← hA37,← hc37] at hcut37
            have HO170:=Aside0.mk (show Kd.V k25 25 _ w.heap.size _ (.slice A37 y166.length c37) y166 from Kd.V_mk (by rw [hy37,hc37];exact Nat.sub_le_sub_right hroom37 _) hr37)
            have HC170:=Aside0.mk (show y166.length ≤ c37 from by rw [hy37,hc37];exact Nat.sub_le_sub_right hroom37 _)
            clear hr37 hC37 hroom37 hi037 hsz37 hc37
            have KY37:=Aside0.mk hy37
            have KA37:=Aside0.mk hA37
            clear hy37 hA37
            replace q37:=eq_true q37
            try go_wp2
            go_roundg kj2
            case measure => have:=HK1.out;have:=HJ2.out;omega
            case rel => exact ⟨(x0_1),(y166),(y156),H',⟨by have:=HK1.out;have:=HJ2.out;omega⟩,⟨by (with_reducible repeat (first | apply Kd.V_alloc | apply Kd.V_drewN | apply Kd.V_drew));exact Kd.V_mono HO_0.out (fun _ hk => ⟨hk.1.1,hk.2⟩)⟩,⟨by (with_reducible repeat (first | apply Kd.V_alloc | apply Kd.V_drewN | apply Kd.V_drew));exact Kd.V_mono HO170.out (fun _ hk => ⟨hk.1.1,hk.2⟩)⟩,⟨by (with_reducible repeat (first | apply Kd.R_alloc | apply Kd.R_drewN | apply Kd.R_drew));exact Kd.R_mono HO158.out (fun _ hk => hk.1)⟩,⟨by repeat (first | (with_reducible first | exact HB.out | apply below_alloc | apply pw_below_drewN | apply below_drew1 | refine below_set ?_ GE155.out) | exact HB.out)⟩⟩
           ·rw [if_neg c27] at H
            exact absurd H (by simp)
         ·rw [if_neg c14] at H
          exact absurd H (by simp)
        ·rw [if_neg c13] at H
         have c13b0 : decide ((ji11) < (ji12)) = false:=decide_eq_false c13
         clear c13
         by_cases c38 : ((rd_T25 x0_1 0).f1) < ((rd_T25 x1_1 0).f1)
         ·rw [if_pos c38] at H
          have c38b0 : decide (((rd_T25 x0_1 0).f1) < ((rd_T25 x1_1 0).f1)) = true:=decide_eq_true c38
          clear c38
          by_cases c39 : 1 ≤ (x0_1.length : Int)
          ·rw [if_pos c39] at H
           have c39b0:=eq_true c39
           have c39b1 : decide (1 ≤ (x0_1.length : Int)) = true:=decide_eq_true c39
           clear c39
           obtain ⟨y173,hy173⟩ : ∃ y_ : List (S25),y_ = (x0_1.drop 1):=⟨_,rfl⟩
           replace H : (span_Both.l0 kj2 y173 x1_1 x4_1) = some r:=by first | (rw [hy173];with_reducible exact H) | (have H2_:=(Option.bind_some _ _).symm.trans H;rw [hy173];with_reducible exact H2_) | (have H2_:=(Option.bind_some _ _).symm.trans H;with_reducible exact H2_) | with_reducible exact H | (rw [hy173];exact H) | exact H
           have Ny173:=Aside0.mk hy173
           clear hy173
           have H':=Aside0.mk H
           clear H
           try go_wp2
           have n0_:=Aside0.mk (Kd.V_drew HO_0.out)
           have n1_:=Aside0.mk (Kd.V_drew HO_1.out)
           have n2_:=Aside0.mk (Kd.R_drew HO_4.out)
           have n3_:=Aside0.mk (below_drew1 HB.out)
           clear HO_0
           clear HO_1
           clear HO_4
           clear HB
           have HO_0:=n0_
           have HO_1:=n1_
           have HO_4:=n2_
           have HB:=n3_
           clear n0_ n1_ n2_ n3_
           obtain ⟨Ao41,co41,eo41⟩:=Kd.V_slice HO_0.out
           (first | subst eo41 | (injection eo41 with f1_ f2_ f3_;have f4_:=f1_.symm;have f5_:=f3_.symm;clear f1_ f2_ f3_;subst f4_;subst f5_))
           have p151 : 0 ≤ (0 : Int):=(by omega)
           have q151 : 0 < (x0_1.length : Int):=of_decide_eq_true (by first | (with_reducible assumption) | assumption)
           obtain ⟨ad151,e151,hx151_0,hx151_1⟩:=at_T25 (Kd.V_reads' HO_0.out).2.2 0 p151 q151
           cases e151
           have qi151 : (0 < x0_1.length) = True:=eq_true (by omega)
           (try rw [show ((0 : Int)).toNat = 0 from rfl] at hx151_0)
           (try rw [show 0 * 2 = 0 from rfl] at hx151_0)
           (try rw [Addr.add_zero'] at hx151_0)
           (try rw [show ((0 : Int)).toNat = 0 from rfl] at hx151_1)
           (try rw [show 0 * 2 = 0 from rfl] at hx151_1)
           (try rw [Addr.add_zero'] at hx151_1)
           replace p151:=eq_true p151
           replace q151:=eq_true q151
           obtain ⟨Ao42,co42,eo42⟩:=Kd.V_slice HO_1.out
           (first | subst eo42 | (injection eo42 with f1_ f2_ f3_;have f4_:=f1_.symm;have f5_:=f3_.symm;clear f1_ f2_ f3_;subst f4_;subst f5_))
           have p152 : 0 ≤ (0 : Int):=(by omega)
           have q152 : 0 < (x1_1.length : Int):=of_decide_eq_true (by first | (with_reducible assumption) | assumption)
           obtain ⟨ad152,e152,hx152_0,hx152_1⟩:=at_T25 (Kd.V_reads' HO_1.out).2.2 0 p152 q152
           cases e152
           have qi152 : (0 < x1_1.length) = True:=eq_true (by omega)
           (try rw [show ((0 : Int)).toNat = 0 from rfl] at hx152_0)
           (try rw [show 0 * 2 = 0 from rfl] at hx152_0)
           (try rw [Addr.add_zero'] at hx152_0)
           (try rw [show ((0 : Int)).toNat = 0 from rfl] at hx152_1)
           (try rw [show 0 * 2 = 0 from rfl] at hx152_1)
           (try rw [Addr.add_zero'] at hx152_1)
           replace p152:=eq_true p152
           replace q152:=eq_true q152
           have p153 : 0 ≤ (0 : Int):=(by omega)
           have q153 : 0 < (x0_1.length : Int):=of_decide_eq_true (by first | (with_reducible assumption) | assumption)
           obtain ⟨ad153,e153,hx153_0,hx153_1⟩:=at_T25 (Kd.V_reads' HO_0.out).2.2 0 p153 q153
           obtain rfl : ad151 = ad153:=(by injection e153)
           have qi153 : (0 < x0_1.length) = True:=eq_true (by omega)
           (try rw [show ((0 : Int)).toNat = 0 from rfl] at hx153_0)
           (try rw [show 0 * 2 = 0 from rfl] at hx153_0)
           (try rw [Addr.add_zero'] at hx153_0)
           (try rw [show ((0 : Int)).toNat = 0 from rfl] at hx153_1)
           (try rw [show 0 * 2 = 0 from rfl] at hx153_1)
           (try rw [Addr.add_zero'] at hx153_1)
           replace p153:=eq_true p153
           replace q153:=eq_true q153
           have p154 : 0 ≤ (0 : Int):=(by omega)
           have q154 : 0 < (x1_1.length : Int):=of_decide_eq_true (by first | (with_reducible assumption) | assumption)
           obtain ⟨ad154,e154,hx154_0,hx154_1⟩:=at_T25 (Kd.V_reads' HO_1.out).2.2 0 p154 q154
           obtain rfl : ad152 = ad154:=(by injection e154)
           have qi154 : (0 < x1_1.length) = True:=eq_true (by omega)
           (try rw [show ((0 : Int)).toNat = 0 from rfl] at hx154_0)
           (try rw [show 0 * 2 = 0 from rfl] at hx154_0)
           (try rw [Addr.add_zero'] at hx154_0)
           (try rw [show ((0 : Int)).toNat = 0 from rfl] at hx154_1)
           (try rw [show 0 * 2 = 0 from rfl] at hx154_1)
           (try rw [Addr.add_zero'] at hx154_1)
           replace p154:=eq_true p154
           replace q154:=eq_true q154
           refine start_ (n:=21) (S:=fun w' => w'.cell? ad151 = some (.int .u64 ((rd_T25 x0_1 0).f0)) ∧ w'.cell? ⟨ad151.block,ad151.off + 1,none⟩ = some (.int .u64 ((rd_T25 x0_1 0).f1)) ∧ w'.cell? ad152 = some (.int .u64 ((rd_T25 x1_1 0).f0)) ∧ w'.cell? ⟨ad152.block,ad152.off + 1,none⟩ = some (.int .u64 ((rd_T25 x1_1 0).f1)) ∧ w'.cell? ad151 = some (.int .u64 ((rd_T25 x0_1 0).f0)) ∧ w'.cell? ⟨ad151.block,ad151.off + 1,none⟩ = some (.int .u64 ((rd_T25 x0_1 0).f1)) ∧ w'.cell? ad152 = some (.int .u64 ((rd_T25 x1_1 0).f0)) ∧ w'.cell? ⟨ad152.block,ad152.off + 1,none⟩ = some (.int .u64 ((rd_T25 x1_1 0).f1))) (ds:=[]) #[false,false,false,false,false,false,false,false,false,false,false,false,false,false,false,false,false,false,false,false,false] (by kernel_rfl) rfl rfl ⟨hx151_0,hx151_1,hx152_0,hx152_1,hx153_0,hx153_1,hx154_0,hx154_1⟩ (fun hHeld => ?_);refine with_tabW span_Both.tab2 span_Both.bits2 (fun HT_ HW_ => ?_)
           generalize wc.drew = w40 at HO_0 HO_1 HO_4 HB hx151_0 hx151_1 hx152_0 hx152_1 hx153_0 hx153_1 hx154_0 hx154_1 hHeld ⊢
           refine pure_ (i:=0) (N:=some 14) (v:=?_) (a':=?_) #[true,false,false,false,false,false,false,false,false,false,false,false,false,false,false,false,false,false,false,false,false] rfl rfl (any_of HT_.out (by kernel_rfl)) (fun _ _ _ h => h) (Or.inl ⟨by rfl,?_⟩) ?_ ?_
           rotate_left
           ·intro w'
            go_simp
            with_reducible rfl
           rotate_left
           ·simp only [Act.put,List.setIfInBounds_toArray,List.set_cons_zero,List.set_cons_succ,i64_w,i32_w]
            rfl
           refine pure_ (i:=1) (N:=some 15) (v:=?_) (a':=?_) #[true,true,false,false,false,false,false,false,false,false,false,false,false,false,false,false,false,false,false,false,false] rfl rfl (any_of HT_.out (by kernel_rfl)) (fun _ _ _ h => h) (Or.inl ⟨by rfl,?_⟩) ?_ ?_
           rotate_left
           ·intro w'
            go_simp
            with_reducible rfl
           rotate_left
           ·simp only [Act.put,List.setIfInBounds_toArray,List.set_cons_zero,List.set_cons_succ,i64_w,i32_w]
            rfl
           refine pure_ (i:=2) (N:=some 16) (v:=?_) (a':=?_) #[true,true,true,false,false,false,false,false,false,false,false,false,false,false,false,false,false,false,false,false,false] rfl rfl (any_of HT_.out (by kernel_rfl)) (fun _ _ _ h => h) (Or.inl ⟨by rfl,?_⟩) ?_ ?_
           rotate_left
           ·intro w'
            go_simp
            with_reducible rfl
           rotate_left
           ·simp only [Act.put,List.setIfInBounds_toArray,List.set_cons_zero,List.set_cons_succ,i64_w,i32_w]
            rfl
           refine pure_ (i:=4) (N:=some 18) (v:=?_) (a':=?_) #[true,true,true,false,true,false,false,false,false,false,false,false,false,false,false,false,false,false,false,false,false] rfl rfl (any_of HT_.out (by kernel_rfl)) (fun _ _ _ h => h) (Or.inl ⟨by rfl,?_⟩) ?_ ?_
           rotate_left
           ·intro w'
            go_simp
            with_reducible rfl
           rotate_left
           ·simp only [Act.put,List.setIfInBounds_toArray,List.set_cons_zero,List.set_cons_succ,i64_w,i32_w]
            rfl
           refine pure_ (i:=5) (N:=some 19) (v:=?_) (a':=?_) #[true,true,true,false,true,true,false,false,false,false,false,false,false,false,false,false,false,false,false,false,false] rfl rfl (any_of HT_.out (by kernel_rfl)) (fun _ _ _ h => h) (Or.inl ⟨by rfl,?_⟩) ?_ ?_
           rotate_left
           ·intro w'
            go_simp
            with_reducible rfl
           rotate_left
           ·simp only [Act.put,List.setIfInBounds_toArray,List.set_cons_zero,List.set_cons_succ,i64_w,i32_w]
            rfl
           refine pure_ (i:=6) (N:=some 20) (v:=?_) (a':=?_) #[true,true,true,false,true,true,true,false,false,false,false,false,false,false,false,false,false,false,false,false,false] rfl rfl (any_of HT_.out (by kernel_rfl)) (fun _ _ _ h => h) (Or.inl ⟨by rfl,?_⟩) ?_ ?_
           rotate_left
           ·intro w'
            go_simp
            with_reducible rfl
           rotate_left
           ·simp only [Act.put,List.setIfInBounds_toArray,List.set_cons_zero,List.set_cons_succ,i64_w,i32_w]
            rfl
           refine pure_ (i:=9) (N:=some 23) (v:=?_) (a':=?_) #[true,true,true,false,true,true,true,false,false,true,false,false,false,false,false,false,false,false,false,false,false] rfl rfl (any_of HT_.out (by kernel_rfl)) (fun _ _ _ h => h) (Or.inl ⟨by rfl,?_⟩) ?_ ?_
           rotate_left
           ·intro w'
            go_simp
            with_reducible rfl
           rotate_left
           ·simp only [Act.put,List.setIfInBounds_toArray,List.set_cons_zero,List.set_cons_succ,i64_w,i32_w]
            rfl
           refine pure_ (i:=10) (N:=some 24) (v:=?_) (a':=?_) #[true,true,true,false,true,true,true,false,false,true,true,false,false,false,false,false,false,false,false,false,false] rfl rfl (any_of HT_.out (by kernel_rfl)) (fun _ _ _ h => h) (Or.inl ⟨by rfl,?_⟩) ?_ ?_
           rotate_left
           ·intro w'
            go_simp
            with_reducible rfl
           rotate_left
           ·simp only [Act.put,List.setIfInBounds_toArray,List.set_cons_zero,List.set_cons_succ,i64_w,i32_w]
            rfl
           refine pure_ (i:=11) (N:=some 25) (v:=?_) (a':=?_) #[true,true,true,false,true,true,true,false,false,true,true,true,false,false,false,false,false,false,false,false,false] rfl rfl (any_of HT_.out (by kernel_rfl)) (fun _ _ _ h => h) (Or.inl ⟨by rfl,?_⟩) ?_ ?_
           rotate_left
           ·intro w'
            go_simp
            with_reducible rfl
           rotate_left
           ·simp only [Act.put,List.setIfInBounds_toArray,List.set_cons_zero,List.set_cons_succ,i64_w,i32_w]
            rfl
           refine pure_ (i:=13) (N:=some 27) (v:=?_) (a':=?_) #[true,true,true,false,true,true,true,false,false,true,true,true,false,true,false,false,false,false,false,false,false] rfl rfl (any_of HT_.out (by kernel_rfl)) (fun _ _ _ h => h) (Or.inl ⟨by rfl,?_⟩) ?_ ?_
           rotate_left
           ·intro w'
            go_simp
            with_reducible rfl
           rotate_left
           ·simp only [Act.put,List.setIfInBounds_toArray,List.set_cons_zero,List.set_cons_succ,i64_w,i32_w]
            rfl
           refine pure_ (i:=14) (N:=some 28) (v:=?_) (a':=?_) #[true,true,true,false,true,true,true,false,false,true,true,true,false,true,true,false,false,false,false,false,false] rfl rfl (any_of HT_.out (by kernel_rfl)) (fun _ _ _ h => h) (Or.inl ⟨by rfl,?_⟩) ?_ ?_
           rotate_left
           ·intro w'
            go_simp
            with_reducible rfl
           rotate_left
           ·simp only [Act.put,List.setIfInBounds_toArray,List.set_cons_zero,List.set_cons_succ,i64_w,i32_w]
            rfl
           refine pure_ (i:=15) (N:=some 29) (v:=?_) (a':=?_) #[true,true,true,false,true,true,true,false,false,true,true,true,false,true,true,true,false,false,false,false,false] rfl rfl (any_of HT_.out (by kernel_rfl)) (fun _ _ _ h => h) (Or.inl ⟨by rfl,?_⟩) ?_ ?_
           rotate_left
           ·intro w'
            go_simp
            with_reducible rfl
           rotate_left
           ·simp only [Act.put,List.setIfInBounds_toArray,List.set_cons_zero,List.set_cons_succ,i64_w,i32_w]
            rfl
           refine take_ (i:=3) (N:=some 17) (v:=?_) (a':=?_) #[true,true,true,true,true,true,true,false,false,true,true,true,false,true,true,true,false,false,false,false,false] rfl rfl (take_ofW HT_.out HW_.out (by kernel_rfl)) (fun _ _ _ h => h) (Or.inl ⟨by rfl,?_⟩) hHeld ?_ ?_
           rotate_left
           ·rintro w' ⟨s0,s1,s2,s3,s4,s5,s6,s7⟩
            go_simp
            with_reducible rfl
           rotate_left
           ·simp only [Act.put,List.setIfInBounds_toArray,List.set_cons_zero,List.set_cons_succ,i64_w,i32_w]
            rfl
           refine take_ (i:=7) (N:=some 21) (v:=?_) (a':=?_) #[true,true,true,true,true,true,true,true,false,true,true,true,false,true,true,true,false,false,false,false,false] rfl rfl (take_ofW HT_.out HW_.out (by kernel_rfl)) (fun _ _ _ h => h) (Or.inl ⟨by rfl,?_⟩) hHeld ?_ ?_
           rotate_left
           ·rintro w' ⟨s0,s1,s2,s3,s4,s5,s6,s7⟩
            go_simp
            with_reducible rfl
           rotate_left
           ·simp only [Act.put,List.setIfInBounds_toArray,List.set_cons_zero,List.set_cons_succ,i64_w,i32_w]
            rfl
           refine pure_ (i:=8) (N:=some 22) (v:=?_) (a':=?_) #[true,true,true,true,true,true,true,true,true,true,true,true,false,true,true,true,false,false,false,false,false] rfl rfl (any_of HT_.out (by kernel_rfl)) (fun _ _ _ h => h) (Or.inl ⟨by rfl,?_⟩) ?_ ?_
           rotate_left
           ·intro w'
            go_simp
            with_reducible rfl
           rotate_left
           ·simp only [Act.put,List.setIfInBounds_toArray,List.set_cons_zero,List.set_cons_succ,i64_w,i32_w]
            rfl
           refine take_ (i:=12) (N:=some 26) (v:=?_) (a':=?_) #[true,true,true,true,true,true,true,true,true,true,true,true,true,true,true,true,false,false,false,false,false] rfl rfl (take_ofW HT_.out HW_.out (by kernel_rfl)) (fun _ _ _ h => h) (Or.inl ⟨by rfl,?_⟩) hHeld ?_ ?_
           rotate_left
           ·rintro w' ⟨s0,s1,s2,s3,s4,s5,s6,s7⟩
            go_simp
            with_reducible rfl
           rotate_left
           ·simp only [Act.put,List.setIfInBounds_toArray,List.set_cons_zero,List.set_cons_succ,i64_w,i32_w]
            rfl
           refine take_ (i:=16) (N:=some 30) (v:=?_) (a':=?_) #[true,true,true,true,true,true,true,true,true,true,true,true,true,true,true,true,true,false,false,false,false] rfl rfl (take_ofW HT_.out HW_.out (by kernel_rfl)) (fun _ _ _ h => h) (Or.inl ⟨by rfl,?_⟩) hHeld ?_ ?_
           rotate_left
           ·rintro w' ⟨s0,s1,s2,s3,s4,s5,s6,s7⟩
            go_simp
            with_reducible rfl
           rotate_left
           ·simp only [Act.put,List.setIfInBounds_toArray,List.set_cons_zero,List.set_cons_succ,i64_w,i32_w]
            rfl
           refine pure_ (i:=17) (N:=some 31) (v:=?_) (a':=?_) #[true,true,true,true,true,true,true,true,true,true,true,true,true,true,true,true,true,true,false,false,false] rfl rfl (any_of HT_.out (by kernel_rfl)) (fun _ _ _ h => h) (Or.inl ⟨by rfl,?_⟩) ?_ ?_
           rotate_left
           ·intro w'
            go_simp
            with_reducible rfl
           rotate_left
           ·simp only [Act.put,List.setIfInBounds_toArray,List.set_cons_zero,List.set_cons_succ,i64_w,i32_w]
            rfl
           refine pure_ (i:=18) (N:=some 32) (v:=?_) (a':=?_) #[true,true,true,true,true,true,true,true,true,true,true,true,true,true,true,true,true,true,true,false,false] rfl rfl (any_of HT_.out (by kernel_rfl)) (fun _ _ _ h => h) (Or.inl ⟨by rfl,?_⟩) ?_ ?_
           rotate_left
           ·intro w'
            go_simp
            with_reducible rfl
           rotate_left
           ·simp only [Act.put,List.setIfInBounds_toArray,List.set_cons_zero,List.set_cons_succ,i64_w,i32_w]
            rfl
           refine one_ (i:=19) (N:=some 5) #[true,true,true,true,true,true,true,true,true,true,true,true,true,true,true,true,true,true,true,true,false] rfl rfl (one_of HT_.out (by kernel_rfl)) (by decide) (fun K hK => ?_)
           refine box_step ?hg (N:=5) ?hd (cs:=#[.int .u64 0,.int .u64 0]) (t:=25) ?hr ?_;(case hd => rfl);(case hg => rfl);(case hr => first | (go_simp;done) | (go_simp;rfl))
           intro gb155 hg w43 hbox hb
           have HS0_:=(hb.cell (World.block_lt_of_cell? _ _ (hHeld.1))).trans (hHeld.1)
           have HS1_:=(hb.cell (World.block_lt_of_cell? _ _ (hHeld.2.1))).trans (hHeld.2.1)
           have HS2_:=(hb.cell (World.block_lt_of_cell? _ _ (hHeld.2.2.1))).trans (hHeld.2.2.1)
           have HS3_:=(hb.cell (World.block_lt_of_cell? _ _ (hHeld.2.2.2.1))).trans (hHeld.2.2.2.1)
           have HS4_:=(hb.cell (World.block_lt_of_cell? _ _ (hHeld.2.2.2.2.1))).trans (hHeld.2.2.2.2.1)
           have HS5_:=(hb.cell (World.block_lt_of_cell? _ _ (hHeld.2.2.2.2.2.1))).trans (hHeld.2.2.2.2.2.1)
           have HS6_:=(hb.cell (World.block_lt_of_cell? _ _ (hHeld.2.2.2.2.2.2.1))).trans (hHeld.2.2.2.2.2.2.1)
           have HS7_:=(hb.cell (World.block_lt_of_cell? _ _ (hHeld.2.2.2.2.2.2.2))).trans (hHeld.2.2.2.2.2.2.2)
           have n0_:=Aside0.mk (Kd.V_below (Kd.V_elderB (by (with_reducible repeat (first | apply Kd.V_alloc | apply Kd.V_drewN | apply Kd.V_drew));exact HO_0.out) gb155 (Nat.le_of_eq hg.symm)) hb)
           have n1_:=Aside0.mk (Kd.V_below (Kd.V_elderB (by (with_reducible repeat (first | apply Kd.V_alloc | apply Kd.V_drewN | apply Kd.V_drew));exact HO_1.out) gb155 (Nat.le_of_eq hg.symm)) hb)
           have n2_:=Aside0.mk (Kd.R_below (Kd.R_elderB (by (with_reducible repeat (first | apply Kd.R_alloc | apply Kd.R_drewN | apply Kd.R_drew));exact HO_4.out) gb155 (Nat.le_of_eq hg.symm)) hb)
           have n3_:=Aside0.mk (below_step (by repeat (first | (with_reducible first | exact HB.out | apply below_alloc | apply pw_below_drewN | apply below_drew1) | exact HB.out)) hb)
           have n4_:=Aside0.mk (hbox)
           have n5_:=Aside0.mk ((by rw [hg];exact (below_size (by repeat (first | (with_reducible first | exact HB.out | apply below_alloc | apply pw_below_drewN | apply below_drew1) | exact HB.out))) : w.heap.size ≤ gb155))
           have n6_:=Aside0.mk ((by rw [hg];exact (below_size (by repeat (first | (with_reducible first | exact HB.out | apply below_alloc | apply pw_below_drewN | apply below_drew1) | exact HB.out))) : w.heap.size ≤ gb155))
           clear HO_0
           clear HO_1
           clear HO_4
           clear HB
           have HO_0:=n0_
           have HO_1:=n1_
           have HO_4:=n2_
           have HB:=n3_
           have BK155:=n4_
           have GW155:=n5_
           have GE155:=n6_
           clear n0_ n1_ n2_ n3_ n4_ n5_ n6_
           clear hb hbox hg
           refine hK.out _ _ ⟨HS0_,HS1_,HS2_,HS3_,HS4_,HS5_,HS6_,HS7_⟩ (fun hHeld => ?_)
           clear hK K
           refine norm_ (a':=?_) ?_ ?_
           rotate_left
           ·show Act.put _ (some 5) _ = _
            simp only [Act.put,List.setIfInBounds_toArray,List.set_cons_zero,List.set_cons_succ,i64_w,i32_w]
            rfl
           refine one_ (i:=20) (N:=none) #[true,true,true,true,true,true,true,true,true,true,true,true,true,true,true,true,true,true,true,true,true] rfl rfl (one_of HT_.out (by kernel_rfl)) (by decide) (fun K hK => ?_)
           have hs44 : w43.cell? ⟨gb155,0,none⟩ = some (.int .u64 0):=(blk_cell BK155.out 0).trans rfl
           have hfs44:=blk_frozen BK155.out 0
           have hs45 : w43.cell? ⟨gb155,1,none⟩ = some (.int .u64 0):=(blk_cell BK155.out 1).trans rfl
           have hfs45:=blk_frozen BK155.out 1
           refine skip_ (w1:=?_) (by rfl) rfl ?_ ?_
           rotate_left
           ·go_simp
            rfl
           refine hK.out _ _ ⟨((cell_far (p:=⟨gb155,_,none⟩) (by first | exact V_blk HO_0.out (fun _ hk => hk.2) (by decide) (of_decide_eq_true (by assumption)) | (rw [add_block];exact V_blk HO_0.out (fun _ hk => hk.2) (by decide) (of_decide_eq_true (by assumption))) | (show (Addr.add _ _).block ≠ _;rw [add_block];exact V_blk HO_0.out (fun _ hk => hk.2) (by decide) (of_decide_eq_true (by assumption))) | (dsimp only;exact V_blk HO_0.out (fun _ hk => hk.2) (by decide) (of_decide_eq_true (by assumption)))) _).trans (((cell_far (p:=⟨gb155,_,none⟩) (by first | exact V_blk HO_0.out (fun _ hk => hk.2) (by decide) (of_decide_eq_true (by assumption)) | (rw [add_block];exact V_blk HO_0.out (fun _ hk => hk.2) (by decide) (of_decide_eq_true (by assumption))) | (show (Addr.add _ _).block ≠ _;rw [add_block];exact V_blk HO_0.out (fun _ hk => hk.2) (by decide) (of_decide_eq_true (by assumption))) | (dsimp only;exact V_blk HO_0.out (fun _ hk => hk.2) (by decide) (of_decide_eq_true (by assumption)))) _).trans (hHeld.1)))),((cell_far (p:=⟨gb155,_,none⟩) (by first | exact V_blk HO_0.out (fun _ hk => hk.2) (by decide) (of_decide_eq_true (by assumption)) | (rw [add_block];exact V_blk HO_0.out (fun _ hk => hk.2) (by decide) (of_decide_eq_true (by assumption))) | (show (Addr.add _ _).block ≠ _;rw [add_block];exact V_blk HO_0.out (fun _ hk => hk.2) (by decide) (of_decide_eq_true (by assumption))) | (dsimp only;exact V_blk HO_0.out (fun _ hk => hk.2) (by decide) (of_decide_eq_true (by assumption)))) _).trans (((cell_far (p:=⟨gb155,_,none⟩) (by first | exact V_blk HO_0.out (fun _ hk => hk.2) (by decide) (of_decide_eq_true (by assumption)) | (rw [add_block];exact V_blk HO_0.out (fun _ hk => hk.2) (by decide) (of_decide_eq_true (by assumption))) | (show (Addr.add _ _).block ≠ _;rw [add_block];exact V_blk HO_0.out (fun _ hk => hk.2) (by decide) (of_decide_eq_true (by assumption))) | (dsimp only;exact V_blk HO_0.out (fun _ hk => hk.2) (by decide) (of_decide_eq_true (by assumption)))) _).trans (hHeld.2.1)))),((cell_far (p:=⟨gb155,_,none⟩) (by first | exact V_blk HO_1.out (fun _ hk => hk.2) (by decide) (of_decide_eq_true (by assumption)) | (rw [add_block];exact V_blk HO_1.out (fun _ hk => hk.2) (by decide) (of_decide_eq_true (by assumption))) | (show (Addr.add _ _).block ≠ _;rw [add_block];exact V_blk HO_1.out (fun _ hk => hk.2) (by decide) (of_decide_eq_true (by assumption))) | (dsimp only;exact V_blk HO_1.out (fun _ hk => hk.2) (by decide) (of_decide_eq_true (by assumption)))) _).trans (((cell_far (p:=⟨gb155,_,none⟩) (by first | exact V_blk HO_1.out (fun _ hk => hk.2) (by decide) (of_decide_eq_true (by assumption)) | (rw [add_block];exact V_blk HO_1.out (fun _ hk => hk.2) (by decide) (of_decide_eq_true (by assumption))) | (show (Addr.add _ _).block ≠ _;rw [add_block];exact V_blk HO_1.out (fun _ hk => hk.2) (by decide) (of_decide_eq_true (by assumption))) | (dsimp only;exact V_blk HO_1.out (fun _ hk => hk.2) (by decide) (of_decide_eq_true (by assumption)))) _).trans (hHeld.2.2.1)))),((cell_far (p:=⟨gb155,_,none⟩) (by first | exact V_blk HO_1.out (fun _ hk => hk.2) (by decide) (of_decide_eq_true (by assumption)) | (rw [add_block];exact V_blk HO_1.out (fun _ hk => hk.2) (by decide) (of_decide_eq_true (by assumption))) | (show (Addr.add _ _).block ≠ _;rw [add_block];exact V_blk HO_1.out (fun _ hk => hk.2) (by decide) (of_decide_eq_true (by assumption))) | (dsimp only;exact V_blk HO_1.out (fun _ hk => hk.2) (by decide) (of_decide_eq_true (by assumption)))) _).trans (((cell_far (p:=⟨gb155,_,none⟩) (by first | exact V_blk HO_1.out (fun _ hk => hk.2) (by decide) (of_decide_eq_true (by assumption)) | (rw [add_block];exact V_blk HO_1.out (fun _ hk => hk.2) (by decide) (of_decide_eq_true (by assumption))) | (show (Addr.add _ _).block ≠ _;rw [add_block];exact V_blk HO_1.out (fun _ hk => hk.2) (by decide) (of_decide_eq_true (by assumption))) | (dsimp only;exact V_blk HO_1.out (fun _ hk => hk.2) (by decide) (of_decide_eq_true (by assumption)))) _).trans (hHeld.2.2.2.1)))),((cell_far (p:=⟨gb155,_,none⟩) (by first | exact V_blk HO_0.out (fun _ hk => hk.2) (by decide) (of_decide_eq_true (by assumption)) | (rw [add_block];exact V_blk HO_0.out (fun _ hk => hk.2) (by decide) (of_decide_eq_true (by assumption))) | (show (Addr.add _ _).block ≠ _;rw [add_block];exact V_blk HO_0.out (fun _ hk => hk.2) (by decide) (of_decide_eq_true (by assumption))) | (dsimp only;exact V_blk HO_0.out (fun _ hk => hk.2) (by decide) (of_decide_eq_true (by assumption)))) _).trans (((cell_far (p:=⟨gb155,_,none⟩) (by first | exact V_blk HO_0.out (fun _ hk => hk.2) (by decide) (of_decide_eq_true (by assumption)) | (rw [add_block];exact V_blk HO_0.out (fun _ hk => hk.2) (by decide) (of_decide_eq_true (by assumption))) | (show (Addr.add _ _).block ≠ _;rw [add_block];exact V_blk HO_0.out (fun _ hk => hk.2) (by decide) (of_decide_eq_true (by assumption))) | (dsimp only;exact V_blk HO_0.out (fun _ hk => hk.2) (by decide) (of_decide_eq_true (by assumption)))) _).trans (hHeld.2.2.2.2.1)))),((cell_far (p:=⟨gb155,_,none⟩) (by first | exact V_blk HO_0.out (fun _ hk => hk.2) (by decide) (of_decide_eq_true (by assumption)) | (rw [add_block];exact V_blk HO_0.out (fun _ hk => hk.2) (by decide) (of_decide_eq_true (by assumption))) | (show (Addr.add _ _).block ≠ _;rw [add_block];exact V_blk HO_0.out (fun _ hk => hk.2) (by decide) (of_decide_eq_true (by assumption))) | (dsimp only;exact V_blk HO_0.out (fun _ hk => hk.2) (by decide) (of_decide_eq_true (by assumption)))) _).trans (((cell_far (p:=⟨gb155,_,none⟩) (by first | exact V_blk HO_0.out (fun _ hk => hk.2) (by decide) (of_decide_eq_true (by assumption)) | (rw [add_block];exact V_blk HO_0.out (fun _ hk => hk.2) (by decide) (of_decide_eq_true (by assumption))) | (show (Addr.add _ _).block ≠ _;rw [add_block];exact V_blk HO_0.out (fun _ hk => hk.2) (by decide) (of_decide_eq_true (by assumption))) | (dsimp only;exact V_blk HO_0.out (fun _ hk => hk.2) (by decide) (of_decide_eq_true (by assumption)))) _).trans (hHeld.2.2.2.2.2.1)))),((cell_far (p:=⟨gb155,_,none⟩) (by first | exact V_blk HO_1.out (fun _ hk => hk.2) (by decide) (of_decide_eq_true (by assumption)) | (rw [add_block];exact V_blk HO_1.out (fun _ hk => hk.2) (by decide) (of_decide_eq_true (by assumption))) | (show (Addr.add _ _).block ≠ _;rw [add_block];exact V_blk HO_1.out (fun _ hk => hk.2) (by decide) (of_decide_eq_true (by assumption))) | (dsimp only;exact V_blk HO_1.out (fun _ hk => hk.2) (by decide) (of_decide_eq_true (by assumption)))) _).trans (((cell_far (p:=⟨gb155,_,none⟩) (by first | exact V_blk HO_1.out (fun _ hk => hk.2) (by decide) (of_decide_eq_true (by assumption)) | (rw [add_block];exact V_blk HO_1.out (fun _ hk => hk.2) (by decide) (of_decide_eq_true (by assumption))) | (show (Addr.add _ _).block ≠ _;rw [add_block];exact V_blk HO_1.out (fun _ hk => hk.2) (by decide) (of_decide_eq_true (by assumption))) | (dsimp only;exact V_blk HO_1.out (fun _ hk => hk.2) (by decide) (of_decide_eq_true (by assumption)))) _).trans (hHeld.2.2.2.2.2.2.1)))),((cell_far (p:=⟨gb155,_,none⟩) (by first | exact V_blk HO_1.out (fun _ hk => hk.2) (by decide) (of_decide_eq_true (by assumption)) | (rw [add_block];exact V_blk HO_1.out (fun _ hk => hk.2) (by decide) (of_decide_eq_true (by assumption))) | (show (Addr.add _ _).block ≠ _;rw [add_block];exact V_blk HO_1.out (fun _ hk => hk.2) (by decide) (of_decide_eq_true (by assumption))) | (dsimp only;exact V_blk HO_1.out (fun _ hk => hk.2) (by decide) (of_decide_eq_true (by assumption)))) _).trans (((cell_far (p:=⟨gb155,_,none⟩) (by first | exact V_blk HO_1.out (fun _ hk => hk.2) (by decide) (of_decide_eq_true (by assumption)) | (rw [add_block];exact V_blk HO_1.out (fun _ hk => hk.2) (by decide) (of_decide_eq_true (by assumption))) | (show (Addr.add _ _).block ≠ _;rw [add_block];exact V_blk HO_1.out (fun _ hk => hk.2) (by decide) (of_decide_eq_true (by assumption))) | (dsimp only;exact V_blk HO_1.out (fun _ hk => hk.2) (by decide) (of_decide_eq_true (by assumption)))) _).trans (hHeld.2.2.2.2.2.2.2))))⟩ (fun hHeld => ?_)
           clear hK K
           refine done_ (done_of HT_.out (by kernel_rfl)) ?_
           have hcz46_0 : w43.cell? ⟨gb155,0,none⟩ = some (.int .u64 0):=(blk_cell BK155.out 0).trans rfl
           have hcz46_1 : w43.cell? ⟨gb155,1,none⟩ = some (.int .u64 0):=(blk_cell BK155.out 1).trans rfl
           have hfz46_0:=blk_frozen BK155.out 0
           have hfz46_1:=blk_frozen BK155.out 1
           try go_wp2
           have n0_ : Aside0 (Kd.V k25 25 ((w43.setCell ⟨gb155,0,none⟩ (.int .u64 ji11)).setCell ⟨gb155,1,none⟩ (.int .u64 ji12)) w.heap.size (fun k_ => ((P0_ k_ ∨ P1_ k_) ∨ w.heap.size ≤ k_) ∧ some k_ ≠ (u4 : Value).ownBlock ∧ k_ ≠ gb155) (.slice (some ad151) x0_1.length co41) x0_1):=⟨by (with_reducible repeat (first | apply Kd.V_alloc | apply Kd.V_drewN | apply Kd.V_drew));exact Kd.V_mono (Kd.V_far (p:=⟨gb155,1,none⟩) (Kd.V_far (p:=⟨gb155,0,none⟩) (Kd.V_mono HO_0.out (fun k_ hk => (⟨hk,hk.2⟩ : _ ∧ k_ ≠ gb155))) (fun _ hk => hk.2) (.int .u64 ji11)) (fun _ hk => hk.2) (.int .u64 ji12)) (fun _ hk => ⟨hk.1.1.1,⟨hk.1.1.2,hk.1.2⟩⟩)⟩
           have n1_ : Aside0 (Kd.V k25 25 ((w43.setCell ⟨gb155,0,none⟩ (.int .u64 ji11)).setCell ⟨gb155,1,none⟩ (.int .u64 ji12)) w.heap.size (fun k_ => ((P0_ k_ ∨ P1_ k_) ∨ w.heap.size ≤ k_) ∧ some k_ ≠ (u4 : Value).ownBlock ∧ k_ ≠ gb155) (.slice (some ad152) x1_1.length co42) x1_1):=⟨by (with_reducible repeat (first | apply Kd.V_alloc | apply Kd.V_drewN | apply Kd.V_drew));exact Kd.V_mono (Kd.V_far (p:=⟨gb155,1,none⟩) (Kd.V_far (p:=⟨gb155,0,none⟩) (Kd.V_mono HO_1.out (fun k_ hk => (⟨hk,hk.2⟩ : _ ∧ k_ ≠ gb155))) (fun _ hk => hk.2) (.int .u64 ji11)) (fun _ hk => hk.2) (.int .u64 ji12)) (fun _ hk => ⟨hk.1.1.1,⟨hk.1.1.2,hk.1.2⟩⟩)⟩
           have n2_ : Aside0 (Kd.R k25 25 ((w43.setCell ⟨gb155,0,none⟩ (.int .u64 ji11)).setCell ⟨gb155,1,none⟩ (.int .u64 ji12)) w.heap.size (fun k_ => (w.heap.size ≤ k_) ∧ k_ ≠ gb155) u4 x4_1):=⟨by (with_reducible repeat (first | apply Kd.R_alloc | apply Kd.R_drewN | apply Kd.R_drew));exact Kd.R_mono (Kd.R_far (p:=⟨gb155,1,none⟩) (Kd.R_far (p:=⟨gb155,0,none⟩) (Kd.R_mono HO_4.out (fun k_ hk => (⟨hk,hk.2⟩ : _ ∧ k_ ≠ gb155))) (fun _ hk => hk.2) (.int .u64 ji11)) (fun _ hk => hk.2) (.int .u64 ji12)) (fun _ hk => ⟨hk.1.1,hk.1.2⟩)⟩
           have n3_ : Aside0 (((w43.setCell ⟨gb155,0,none⟩ (.int .u64 ji11)).setCell ⟨gb155,1,none⟩ (.int .u64 ji12)).heap[gb155]? = some (.cells #[.int .u64 ji11,.int .u64 ji12] 25 (0,0))):=⟨by (with_reducible repeat (first | refine blk_drewN ?_ _ | refine blk_drew ?_ | refine blk_alloc ?_ _));refine blk_put (cs:=#[.int .u64 ji11,.int .u64 0]) ?_ 1 _ rfl;(with_reducible repeat (first | refine blk_drewN ?_ _ | refine blk_drew ?_ | refine blk_alloc ?_ _));refine blk_put (cs:=#[.int .u64 0,.int .u64 0]) ?_ 0 _ rfl;(with_reducible repeat (first | refine blk_drewN ?_ _ | refine blk_drew ?_ | refine blk_alloc ?_ _));exact BK155.out⟩
           have n4_ : Aside0 (Below w.heap.size w ((w43.setCell ⟨gb155,0,none⟩ (.int .u64 ji11)).setCell ⟨gb155,1,none⟩ (.int .u64 ji12))):=⟨by repeat (first | (with_reducible first | exact HB.out | apply below_alloc | apply pw_below_drewN | apply below_drew1 | refine below_set ?_ GE155.out) | exact HB.out)⟩
           (try clear HO_0)
           (try clear HO_1)
           (try clear HO_4)
           (try clear BK155)
           (try clear HB)
           generalize ((w43.setCell ⟨gb155,0,none⟩ (.int .u64 ji11)).setCell ⟨gb155,1,none⟩ (.int .u64 ji12)) = w47 at n0_ n1_ n2_ n3_ n4_ ⊢
           have HO_0:=n0_
           have HO_1:=n1_
           have HO_4:=n2_
           have BK155:=n3_
           have HB:=n4_
           clear n0_ n1_ n2_ n3_ n4_
           have n0_:=Aside0.mk (Kd.V_drew HO_0.out)
           have n1_:=Aside0.mk (Kd.V_drew HO_1.out)
           have n2_:=Aside0.mk (Kd.R_drew HO_4.out)
           have n3_:=Aside0.mk (blk_drew BK155.out)
           have n4_:=Aside0.mk (below_drew1 HB.out)
           clear HO_0
           clear HO_1
           clear HO_4
           clear BK155
           clear HB
           have HO_0:=n0_
           have HO_1:=n1_
           have HO_4:=n2_
           have BK155:=n3_
           have HB:=n4_
           clear n0_ n1_ n2_ n3_ n4_
           have p171 : 0 ≤ (0 : Int):=(by omega)
           have q171 : 0 < (x0_1.length : Int):=of_decide_eq_true (by first | (with_reducible assumption) | assumption)
           obtain ⟨ad171,e171,hx171_0,hx171_1⟩:=at_T25 (Kd.V_reads' HO_0.out).2.2 0 p171 q171
           obtain rfl : ad151 = ad171:=(by injection e171)
           have qi171 : (0 < x0_1.length) = True:=eq_true (by omega)
           (try rw [show ((0 : Int)).toNat = 0 from rfl] at hx171_0)
           (try rw [show 0 * 2 = 0 from rfl] at hx171_0)
           (try rw [Addr.add_zero'] at hx171_0)
           (try rw [show ((0 : Int)).toNat = 0 from rfl] at hx171_1)
           (try rw [show 0 * 2 = 0 from rfl] at hx171_1)
           (try rw [Addr.add_zero'] at hx171_1)
           replace p171:=eq_true p171
           replace q171:=eq_true q171
           have p172 : 0 ≤ (0 : Int):=(by omega)
           have q172 : 0 < (x1_1.length : Int):=of_decide_eq_true (by first | (with_reducible assumption) | assumption)
           obtain ⟨ad172,e172,hx172_0,hx172_1⟩:=at_T25 (Kd.V_reads' HO_1.out).2.2 0 p172 q172
           obtain rfl : ad152 = ad172:=(by injection e172)
           have qi172 : (0 < x1_1.length) = True:=eq_true (by omega)
           (try rw [show ((0 : Int)).toNat = 0 from rfl] at hx172_0)
           (try rw [show 0 * 2 = 0 from rfl] at hx172_0)
           (try rw [Addr.add_zero'] at hx172_0)
           (try rw [show ((0 : Int)).toNat = 0 from rfl] at hx172_1)
           (try rw [show 0 * 2 = 0 from rfl] at hx172_1)
           (try rw [Addr.add_zero'] at hx172_1)
           replace p172:=eq_true p172
           replace q172:=eq_true q172
           refine start_ (n:=9) (S:=fun w' => w'.cell? ad151 = some (.int .u64 ((rd_T25 x0_1 0).f0)) ∧ w'.cell? ⟨ad151.block,ad151.off + 1,none⟩ = some (.int .u64 ((rd_T25 x0_1 0).f1)) ∧ w'.cell? ad152 = some (.int .u64 ((rd_T25 x1_1 0).f0)) ∧ w'.cell? ⟨ad152.block,ad152.off + 1,none⟩ = some (.int .u64 ((rd_T25 x1_1 0).f1))) (ds:=[]) #[false,false,false,false,false,false,false,false,false] (by kernel_rfl) rfl rfl ⟨hx171_0,hx171_1,hx172_0,hx172_1⟩ (fun hHeld => ?_);refine with_tabW span_Both.tab5 span_Both.bits5 (fun HT_ HW_ => ?_)
           generalize w47.drew = w48 at HO_0 HO_1 HO_4 BK155 HB hx171_0 hx171_1 hx172_0 hx172_1 hHeld ⊢
           refine pure_ (i:=0) (N:=some 42) (v:=?_) (a':=?_) #[true,false,false,false,false,false,false,false,false] rfl rfl (any_of HT_.out (by kernel_rfl)) (fun _ _ _ h => h) (Or.inl ⟨by rfl,?_⟩) ?_ ?_
           rotate_left
           ·intro w'
            go_simp
            with_reducible rfl
           rotate_left
           ·simp only [Act.put,List.setIfInBounds_toArray,List.set_cons_zero,List.set_cons_succ,i64_w,i32_w]
            rfl
           refine pure_ (i:=1) (N:=some 43) (v:=?_) (a':=?_) #[true,true,false,false,false,false,false,false,false] rfl rfl (any_of HT_.out (by kernel_rfl)) (fun _ _ _ h => h) (Or.inl ⟨by rfl,?_⟩) ?_ ?_
           rotate_left
           ·intro w'
            go_simp
            with_reducible rfl
           rotate_left
           ·simp only [Act.put,List.setIfInBounds_toArray,List.set_cons_zero,List.set_cons_succ,i64_w,i32_w]
            rfl
           refine pure_ (i:=2) (N:=some 44) (v:=?_) (a':=?_) #[true,true,true,false,false,false,false,false,false] rfl rfl (any_of HT_.out (by kernel_rfl)) (fun _ _ _ h => h) (Or.inl ⟨by rfl,?_⟩) ?_ ?_
           rotate_left
           ·intro w'
            go_simp
            with_reducible rfl
           rotate_left
           ·simp only [Act.put,List.setIfInBounds_toArray,List.set_cons_zero,List.set_cons_succ,i64_w,i32_w]
            rfl
           refine pure_ (i:=4) (N:=some 46) (v:=?_) (a':=?_) #[true,true,true,false,true,false,false,false,false] rfl rfl (any_of HT_.out (by kernel_rfl)) (fun _ _ _ h => h) (Or.inl ⟨by rfl,?_⟩) ?_ ?_
           rotate_left
           ·intro w'
            go_simp
            with_reducible rfl
           rotate_left
           ·simp only [Act.put,List.setIfInBounds_toArray,List.set_cons_zero,List.set_cons_succ,i64_w,i32_w]
            rfl
           refine pure_ (i:=5) (N:=some 47) (v:=?_) (a':=?_) #[true,true,true,false,true,true,false,false,false] rfl rfl (any_of HT_.out (by kernel_rfl)) (fun _ _ _ h => h) (Or.inl ⟨by rfl,?_⟩) ?_ ?_
           rotate_left
           ·intro w'
            go_simp
            with_reducible rfl
           rotate_left
           ·simp only [Act.put,List.setIfInBounds_toArray,List.set_cons_zero,List.set_cons_succ,i64_w,i32_w]
            rfl
           refine pure_ (i:=6) (N:=some 48) (v:=?_) (a':=?_) #[true,true,true,false,true,true,true,false,false] rfl rfl (any_of HT_.out (by kernel_rfl)) (fun _ _ _ h => h) (Or.inl ⟨by rfl,?_⟩) ?_ ?_
           rotate_left
           ·intro w'
            go_simp
            with_reducible rfl
           rotate_left
           ·simp only [Act.put,List.setIfInBounds_toArray,List.set_cons_zero,List.set_cons_succ,i64_w,i32_w]
            rfl
           refine take_ (i:=3) (N:=some 45) (v:=?_) (a':=?_) #[true,true,true,true,true,true,true,false,false] rfl rfl (take_ofW HT_.out HW_.out (by kernel_rfl)) (fun _ _ _ h => h) (Or.inl ⟨by rfl,?_⟩) hHeld ?_ ?_
           rotate_left
           ·rintro w' ⟨s0,s1,s2,s3⟩
            go_simp
            with_reducible rfl
           rotate_left
           ·simp only [Act.put,List.setIfInBounds_toArray,List.set_cons_zero,List.set_cons_succ,i64_w,i32_w]
            rfl
           refine take_ (i:=7) (N:=some 49) (v:=?_) (a':=?_) #[true,true,true,true,true,true,true,true,false] rfl rfl (take_ofW HT_.out HW_.out (by kernel_rfl)) (fun _ _ _ h => h) (Or.inl ⟨by rfl,?_⟩) hHeld ?_ ?_
           rotate_left
           ·rintro w' ⟨s0,s1,s2,s3⟩
            go_simp
            with_reducible rfl
           rotate_left
           ·simp only [Act.put,List.setIfInBounds_toArray,List.set_cons_zero,List.set_cons_succ,i64_w,i32_w]
            rfl
           refine pure_ (i:=8) (N:=some 50) (v:=?_) (a':=?_) #[true,true,true,true,true,true,true,true,true] rfl rfl (any_of HT_.out (by kernel_rfl)) (fun _ _ _ h => h) (Or.inl ⟨by rfl,?_⟩) ?_ ?_
           rotate_left
           ·intro w'
            go_simp
            with_reducible rfl
           rotate_left
           ·simp only [Act.put,List.setIfInBounds_toArray,List.set_cons_zero,List.set_cons_succ,i64_w,i32_w]
            rfl
           refine done_ (done_of HT_.out (by kernel_rfl)) ?_
           have q49 : (1 : Int) ≤ ((x0_1.length : Int) : Int):=of_decide_eq_true (by first | (with_reducible assumption) | assumption)
           obtain ⟨i049,hi049,_,hsz49,_⟩:=info_parts info25
           have hroom49 : x0_1.length ≤ co41:=(Kd.V_reads' HO_0.out).2.1
           have hC49 : Kd.F k25 _ _ (some ad151) x0_1.length x0_1:=(Kd.V_at (base:=w.heap.size) HO_0.out).2.2
           have hcut49:=cut_from (P:=Try.prog) 22 25 .i64 Try.underlying22 hi049 2 hsz49 (some ad151) x0_1.length co41 1 (by omega) q49
           have hr49:=Kd.F_cut (m:=(1 : Int).toNat) (c:=co41) hC49 (by omega) hroom49
           obtain ⟨A49,hA49⟩ : ∃ A1,A1 = (if co41 = (1 : Int).toNat then (some ad151) else ((some ad151) : Option Addr).map (·.add ((1 : Int).toNat * 2))):=⟨_,rfl⟩
           obtain ⟨c49,hc49⟩ : ∃ c1,c1 = co41 - (1 : Int).toNat:=⟨_,rfl⟩
           have hy49 : y173.length = x0_1.length - (1 : Int).toNat:=(by rw [Ny173.out,List.length_drop] <;> omega)
           rw [show (x0_1).drop (1 : Int).toNat = y173 from Ny173.out.symm] at hr49
           replace hr49 : Kd.F k25 _ _ A49 y173.length y173:=(by rw [hA49];exact hr49)
           rw [← hy49,← hA49,← hc49] at hcut49
           have HO177:=Aside0.mk (show Kd.V k25 25 _ w.heap.size _ (.slice A49 y173.length c49) y173 from Kd.V_mk (by rw [hy49,hc49];exact Nat.sub_le_sub_right hroom49 _) hr49)
           have HC177:=Aside0.mk (show y173.length ≤ c49 from by rw [hy49,hc49];exact Nat.sub_le_sub_right hroom49 _)
           clear hr49 hC49 hroom49 hi049 hsz49 hc49
           have KY49:=Aside0.mk hy49
           have KA49:=Aside0.mk hA49
           clear hy49 hA49
           replace q49:=eq_true q49
           try go_wp2
           go_roundg kj2
           case measure => have:=HK1.out;have:=HJ2.out;omega
           case rel => exact ⟨(y173),(x1_1),(x4_1),H',⟨by have:=HK1.out;have:=HJ2.out;omega⟩,⟨by (with_reducible repeat (first | apply Kd.V_alloc | apply Kd.V_drewN | apply Kd.V_drew));exact Kd.V_mono HO177.out (fun _ hk => ⟨hk.1,hk.2.1⟩)⟩,⟨by (with_reducible repeat (first | apply Kd.V_alloc | apply Kd.V_drewN | apply Kd.V_drew));exact Kd.V_mono HO_1.out (fun _ hk => ⟨hk.1,hk.2.1⟩)⟩,⟨by (with_reducible repeat (first | apply Kd.R_alloc | apply Kd.R_drewN | apply Kd.R_drew));exact Kd.R_mono HO_4.out (fun _ hk => hk.1)⟩,⟨by repeat (first | (with_reducible first | exact HB.out | apply below_alloc | apply pw_below_drewN | apply below_drew1 | refine below_set ?_ GE155.out) | exact HB.out)⟩⟩
          ·rw [if_neg c39] at H
           exact absurd H (by simp)
         ·rw [if_neg c38] at H
          have c38b0 : decide (((rd_T25 x0_1 0).f1) < ((rd_T25 x1_1 0).f1)) = false:=decide_eq_false c38
          clear c38
          by_cases c50 : 1 ≤ (x1_1.length : Int)
          ·rw [if_pos c50] at H
           have c50b0:=eq_true c50
           have c50b1 : decide (1 ≤ (x1_1.length : Int)) = true:=decide_eq_true c50
           clear c50
           obtain ⟨y178,hy178⟩ : ∃ y_ : List (S25),y_ = (x1_1.drop 1):=⟨_,rfl⟩
           replace H : (span_Both.l0 kj2 x0_1 y178 x4_1) = some r:=by first | (rw [hy178];with_reducible exact H) | (have H2_:=(Option.bind_some _ _).symm.trans H;rw [hy178];with_reducible exact H2_) | (have H2_:=(Option.bind_some _ _).symm.trans H;with_reducible exact H2_) | with_reducible exact H | (rw [hy178];exact H) | exact H
           have Ny178:=Aside0.mk hy178
           clear hy178
           have H':=Aside0.mk H
           clear H
           try go_wp2
           have n0_:=Aside0.mk (Kd.V_drew HO_0.out)
           have n1_:=Aside0.mk (Kd.V_drew HO_1.out)
           have n2_:=Aside0.mk (Kd.R_drew HO_4.out)
           have n3_:=Aside0.mk (below_drew1 HB.out)
           clear HO_0
           clear HO_1
           clear HO_4
           clear HB
           have HO_0:=n0_
           have HO_1:=n1_
           have HO_4:=n2_
           have HB:=n3_
           clear n0_ n1_ n2_ n3_
           obtain ⟨Ao52,co52,eo52⟩:=Kd.V_slice HO_0.out
           (first | subst eo52 | (injection eo52 with f1_ f2_ f3_;have f4_:=f1_.symm;have f5_:=f3_.symm;clear f1_ f2_ f3_;subst f4_;subst f5_))
           have p151 : 0 ≤ (0 : Int):=(by omega)
           have q151 : 0 < (x0_1.length : Int):=of_decide_eq_true (by first | (with_reducible assumption) | assumption)
           obtain ⟨ad151,e151,hx151_0,hx151_1⟩:=at_T25 (Kd.V_reads' HO_0.out).2.2 0 p151 q151
           cases e151
           have qi151 : (0 < x0_1.length) = True:=eq_true (by omega)
           (try rw [show ((0 : Int)).toNat = 0 from rfl] at hx151_0)
           (try rw [show 0 * 2 = 0 from rfl] at hx151_0)
           (try rw [Addr.add_zero'] at hx151_0)
           (try rw [show ((0 : Int)).toNat = 0 from rfl] at hx151_1)
           (try rw [show 0 * 2 = 0 from rfl] at hx151_1)
           (try rw [Addr.add_zero'] at hx151_1)
           replace p151:=eq_true p151
           replace q151:=eq_true q151
           obtain ⟨Ao53,co53,eo53⟩:=Kd.V_slice HO_1.out
           (first | subst eo53 | (injection eo53 with f1_ f2_ f3_;have f4_:=f1_.symm;have f5_:=f3_.symm;clear f1_ f2_ f3_;subst f4_;subst f5_))
           have p152 : 0 ≤ (0 : Int):=(by omega)
           have q152 : 0 < (x1_1.length : Int):=of_decide_eq_true (by first | (with_reducible assumption) | assumption)
           obtain ⟨ad152,e152,hx152_0,hx152_1⟩:=at_T25 (Kd.V_reads' HO_1.out).2.2 0 p152 q152
           cases e152
           have qi152 : (0 < x1_1.length) = True:=eq_true (by omega)
           (try rw [show ((0 : Int)).toNat = 0 from rfl] at hx152_0)
           (try rw [show 0 * 2 = 0 from rfl] at hx152_0)
           (try rw [Addr.add_zero'] at hx152_0)
           (try rw [show ((0 : Int)).toNat = 0 from rfl] at hx152_1)
           (try rw [show 0 * 2 = 0 from rfl] at hx152_1)
           (try rw [Addr.add_zero'] at hx152_1)
           replace p152:=eq_true p152
           replace q152:=eq_true q152
           have p153 : 0 ≤ (0 : Int):=(by omega)
           have q153 : 0 < (x0_1.length : Int):=of_decide_eq_true (by first | (with_reducible assumption) | assumption)
           obtain ⟨ad153,e153,hx153_0,hx153_1⟩:=at_T25 (Kd.V_reads' HO_0.out).2.2 0 p153 q153
           obtain rfl : ad151 = ad153:=(by injection e153)
           have qi153 : (0 < x0_1.length) = True:=eq_true (by omega)
           (try rw [show ((0 : Int)).toNat = 0 from rfl] at hx153_0)
           (try rw [show 0 * 2 = 0 from rfl] at hx153_0)
           (try rw [Addr.add_zero'] at hx153_0)
           (try rw [show ((0 : Int)).toNat = 0 from rfl] at hx153_1)
           (try rw [show 0 * 2 = 0 from rfl] at hx153_1)
           (try rw [Addr.add_zero'] at hx153_1)
           replace p153:=eq_true p153
           replace q153:=eq_true q153
           have p154 : 0 ≤ (0 : Int):=(by omega)
           have q154 : 0 < (x1_1.length : Int):=of_decide_eq_true (by first | (with_reducible assumption) | assumption)
           obtain ⟨ad154,e154,hx154_0,hx154_1⟩:=at_T25 (Kd.V_reads' HO_1.out).2.2 0 p154 q154
           obtain rfl : ad152 = ad154:=(by injection e154)
           have qi154 : (0 < x1_1.length) = True:=eq_true (by omega)
           (try rw [show ((0 : Int)).toNat = 0 from rfl] at hx154_0)
           (try rw [show 0 * 2 = 0 from rfl] at hx154_0)
           (try rw [Addr.add_zero'] at hx154_0)
           (try rw [show ((0 : Int)).toNat = 0 from rfl] at hx154_1)
           (try rw [show 0 * 2 = 0 from rfl] at hx154_1)
           (try rw [Addr.add_zero'] at hx154_1)
           replace p154:=eq_true p154
           replace q154:=eq_true q154
           refine start_ (n:=21) (S:=fun w' => w'.cell? ad151 = some (.int .u64 ((rd_T25 x0_1 0).f0)) ∧ w'.cell? ⟨ad151.block,ad151.off + 1,none⟩ = some (.int .u64 ((rd_T25 x0_1 0).f1)) ∧ w'.cell? ad152 = some (.int .u64 ((rd_T25 x1_1 0).f0)) ∧ w'.cell? ⟨ad152.block,ad152.off + 1,none⟩ = some (.int .u64 ((rd_T25 x1_1 0).f1)) ∧ w'.cell? ad151 = some (.int .u64 ((rd_T25 x0_1 0).f0)) ∧ w'.cell? ⟨ad151.block,ad151.off + 1,none⟩ = some (.int .u64 ((rd_T25 x0_1 0).f1)) ∧ w'.cell? ad152 = some (.int .u64 ((rd_T25 x1_1 0).f0)) ∧ w'.cell? ⟨ad152.block,ad152.off + 1,none⟩ = some (.int .u64 ((rd_T25 x1_1 0).f1))) (ds:=[]) #[false,false,false,false,false,false,false,false,false,false,false,false,false,false,false,false,false,false,false,false,false] (by kernel_rfl) rfl rfl ⟨hx151_0,hx151_1,hx152_0,hx152_1,hx153_0,hx153_1,hx154_0,hx154_1⟩ (fun hHeld => ?_);refine with_tabW span_Both.tab2 span_Both.bits2 (fun HT_ HW_ => ?_)
           generalize wc.drew = w51 at HO_0 HO_1 HO_4 HB hx151_0 hx151_1 hx152_0 hx152_1 hx153_0 hx153_1 hx154_0 hx154_1 hHeld ⊢
           refine pure_ (i:=0) (N:=some 14) (v:=?_) (a':=?_) #[true,false,false,false,false,false,false,false,false,false,false,false,false,false,false,false,false,false,false,false,false] rfl rfl (any_of HT_.out (by kernel_rfl)) (fun _ _ _ h => h) (Or.inl ⟨by rfl,?_⟩) ?_ ?_
           rotate_left
           ·intro w'
            go_simp
            with_reducible rfl
           rotate_left
           ·simp only [Act.put,List.setIfInBounds_toArray,List.set_cons_zero,List.set_cons_succ,i64_w,i32_w]
            rfl
           refine pure_ (i:=1) (N:=some 15) (v:=?_) (a':=?_) #[true,true,false,false,false,false,false,false,false,false,false,false,false,false,false,false,false,false,false,false,false] rfl rfl (any_of HT_.out (by kernel_rfl)) (fun _ _ _ h => h) (Or.inl ⟨by rfl,?_⟩) ?_ ?_
           rotate_left
           ·intro w'
            go_simp
            with_reducible rfl
           rotate_left
           ·simp only [Act.put,List.setIfInBounds_toArray,List.set_cons_zero,List.set_cons_succ,i64_w,i32_w]
            rfl
           refine pure_ (i:=2) (N:=some 16) (v:=?_) (a':=?_) #[true,true,true,false,false,false,false,false,false,false,false,false,false,false,false,false,false,false,false,false,false] rfl rfl (any_of HT_.out (by kernel_rfl)) (fun _ _ _ h => h) (Or.inl ⟨by rfl,?_⟩) ?_ ?_
           rotate_left
           ·intro w'
            go_simp
            with_reducible rfl
           rotate_left
           ·simp only [Act.put,List.setIfInBounds_toArray,List.set_cons_zero,List.set_cons_succ,i64_w,i32_w]
            rfl
           refine pure_ (i:=4) (N:=some 18) (v:=?_) (a':=?_) #[true,true,true,false,true,false,false,false,false,false,false,false,false,false,false,false,false,false,false,false,false] rfl rfl (any_of HT_.out (by kernel_rfl)) (fun _ _ _ h => h) (Or.inl ⟨by rfl,?_⟩) ?_ ?_
           rotate_left
           ·intro w'
            go_simp
            with_reducible rfl
           rotate_left
           ·simp only [Act.put,List.setIfInBounds_toArray,List.set_cons_zero,List.set_cons_succ,i64_w,i32_w]
            rfl
           refine pure_ (i:=5) (N:=some 19) (v:=?_) (a':=?_) #[true,true,true,false,true,true,false,false,false,false,false,false,false,false,false,false,false,false,false,false,false] rfl rfl (any_of HT_.out (by kernel_rfl)) (fun _ _ _ h => h) (Or.inl ⟨by rfl,?_⟩) ?_ ?_
           rotate_left
           ·intro w'
            go_simp
            with_reducible rfl
           rotate_left
           ·simp only [Act.put,List.setIfInBounds_toArray,List.set_cons_zero,List.set_cons_succ,i64_w,i32_w]
            rfl
           refine pure_ (i:=6) (N:=some 20) (v:=?_) (a':=?_) #[true,true,true,false,true,true,true,false,false,false,false,false,false,false,false,false,false,false,false,false,false] rfl rfl (any_of HT_.out (by kernel_rfl)) (fun _ _ _ h => h) (Or.inl ⟨by rfl,?_⟩) ?_ ?_
           rotate_left
           ·intro w'
            go_simp
            with_reducible rfl
           rotate_left
           ·simp only [Act.put,List.setIfInBounds_toArray,List.set_cons_zero,List.set_cons_succ,i64_w,i32_w]
            rfl
           refine pure_ (i:=9) (N:=some 23) (v:=?_) (a':=?_) #[true,true,true,false,true,true,true,false,false,true,false,false,false,false,false,false,false,false,false,false,false] rfl rfl (any_of HT_.out (by kernel_rfl)) (fun _ _ _ h => h) (Or.inl ⟨by rfl,?_⟩) ?_ ?_
           rotate_left
           ·intro w'
            go_simp
            with_reducible rfl
           rotate_left
           ·simp only [Act.put,List.setIfInBounds_toArray,List.set_cons_zero,List.set_cons_succ,i64_w,i32_w]
            rfl
           refine pure_ (i:=10) (N:=some 24) (v:=?_) (a':=?_) #[true,true,true,false,true,true,true,false,false,true,true,false,false,false,false,false,false,false,false,false,false] rfl rfl (any_of HT_.out (by kernel_rfl)) (fun _ _ _ h => h) (Or.inl ⟨by rfl,?_⟩) ?_ ?_
           rotate_left
           ·intro w'
            go_simp
            with_reducible rfl
           rotate_left
           ·simp only [Act.put,List.setIfInBounds_toArray,List.set_cons_zero,List.set_cons_succ,i64_w,i32_w]
            rfl
           refine pure_ (i:=11) (N:=some 25) (v:=?_) (a':=?_) #[true,true,true,false,true,true,true,false,false,true,true,true,false,false,false,false,false,false,false,false,false] rfl rfl (any_of HT_.out (by kernel_rfl)) (fun _ _ _ h => h) (Or.inl ⟨by rfl,?_⟩) ?_ ?_
           rotate_left
           ·intro w'
            go_simp
            with_reducible rfl
           rotate_left
           ·simp only [Act.put,List.setIfInBounds_toArray,List.set_cons_zero,List.set_cons_succ,i64_w,i32_w]
            rfl
           refine pure_ (i:=13) (N:=some 27) (v:=?_) (a':=?_) #[true,true,true,false,true,true,true,false,false,true,true,true,false,true,false,false,false,false,false,false,false] rfl rfl (any_of HT_.out (by kernel_rfl)) (fun _ _ _ h => h) (Or.inl ⟨by rfl,?_⟩) ?_ ?_
           rotate_left
           ·intro w'
            go_simp
            with_reducible rfl
           rotate_left
           ·simp only [Act.put,List.setIfInBounds_toArray,List.set_cons_zero,List.set_cons_succ,i64_w,i32_w]
            rfl
           refine pure_ (i:=14) (N:=some 28) (v:=?_) (a':=?_) #[true,true,true,false,true,true,true,false,false,true,true,true,false,true,true,false,false,false,false,false,false] rfl rfl (any_of HT_.out (by kernel_rfl)) (fun _ _ _ h => h) (Or.inl ⟨by rfl,?_⟩) ?_ ?_
           rotate_left
           ·intro w'
            go_simp
            with_reducible rfl
           rotate_left
           ·simp only [Act.put,List.setIfInBounds_toArray,List.set_cons_zero,List.set_cons_succ,i64_w,i32_w]
            rfl
           refine pure_ (i:=15) (N:=some 29) (v:=?_) (a':=?_) #[true,true,true,false,true,true,true,false,false,true,true,true,false,true,true,true,false,false,false,false,false] rfl rfl (any_of HT_.out (by kernel_rfl)) (fun _ _ _ h => h) (Or.inl ⟨by rfl,?_⟩) ?_ ?_
           rotate_left
           ·intro w'
            go_simp
            with_reducible rfl
           rotate_left
           ·simp only [Act.put,List.setIfInBounds_toArray,List.set_cons_zero,List.set_cons_succ,i64_w,i32_w]
            rfl
           refine take_ (i:=3) (N:=some 17) (v:=?_) (a':=?_) #[true,true,true,true,true,true,true,false,false,true,true,true,false,true,true,true,false,false,false,false,false] rfl rfl (take_ofW HT_.out HW_.out (by kernel_rfl)) (fun _ _ _ h => h) (Or.inl ⟨by rfl,?_⟩) hHeld ?_ ?_
           rotate_left
           ·rintro w' ⟨s0,s1,s2,s3,s4,s5,s6,s7⟩
            go_simp
            with_reducible rfl
           rotate_left
           ·simp only [Act.put,List.setIfInBounds_toArray,List.set_cons_zero,List.set_cons_succ,i64_w,i32_w]
            rfl
           refine take_ (i:=7) (N:=some 21) (v:=?_) (a':=?_) #[true,true,true,true,true,true,true,true,false,true,true,true,false,true,true,true,false,false,false,false,false] rfl rfl (take_ofW HT_.out HW_.out (by kernel_rfl)) (fun _ _ _ h => h) (Or.inl ⟨by rfl,?_⟩) hHeld ?_ ?_
           rotate_left
           ·rintro w' ⟨s0,s1,s2,s3,s4,s5,s6,s7⟩
            go_simp
            with_reducible rfl
           rotate_left
           ·simp only [Act.put,List.setIfInBounds_toArray,List.set_cons_zero,List.set_cons_succ,i64_w,i32_w]
            rfl
           refine pure_ (i:=8) (N:=some 22) (v:=?_) (a':=?_) #[true,true,true,true,true,true,true,true,true,true,true,true,false,true,true,true,false,false,false,false,false] rfl rfl (any_of HT_.out (by kernel_rfl)) (fun _ _ _ h => h) (Or.inl ⟨by rfl,?_⟩) ?_ ?_
           rotate_left
           ·intro w'
            go_simp
            with_reducible rfl
           rotate_left
           ·simp only [Act.put,List.setIfInBounds_toArray,List.set_cons_zero,List.set_cons_succ,i64_w,i32_w]
            rfl
           refine take_ (i:=12) (N:=some 26) (v:=?_) (a':=?_) #[true,true,true,true,true,true,true,true,true,true,true,true,true,true,true,true,false,false,false,false,false] rfl rfl (take_ofW HT_.out HW_.out (by kernel_rfl)) (fun _ _ _ h => h) (Or.inl ⟨by rfl,?_⟩) hHeld ?_ ?_
           rotate_left
           ·rintro w' ⟨s0,s1,s2,s3,s4,s5,s6,s7⟩
            go_simp
            with_reducible rfl
           rotate_left
           ·simp only [Act.put,List.setIfInBounds_toArray,List.set_cons_zero,List.set_cons_succ,i64_w,i32_w]
            rfl
           refine take_ (i:=16) (N:=some 30) (v:=?_) (a':=?_) #[true,true,true,true,true,true,true,true,true,true,true,true,true,true,true,true,true,false,false,false,false] rfl rfl (take_ofW HT_.out HW_.out (by kernel_rfl)) (fun _ _ _ h => h) (Or.inl ⟨by rfl,?_⟩) hHeld ?_ ?_
           rotate_left
           ·rintro w' ⟨s0,s1,s2,s3,s4,s5,s6,s7⟩
            go_simp
            with_reducible rfl
           rotate_left
           ·simp only [Act.put,List.setIfInBounds_toArray,List.set_cons_zero,List.set_cons_succ,i64_w,i32_w]
            rfl
           refine pure_ (i:=17) (N:=some 31) (v:=?_) (a':=?_) #[true,true,true,true,true,true,true,true,true,true,true,true,true,true,true,true,true,true,false,false,false] rfl rfl (any_of HT_.out (by kernel_rfl)) (fun _ _ _ h => h) (Or.inl ⟨by rfl,?_⟩) ?_ ?_
           rotate_left
           ·intro w'
            go_simp
            with_reducible rfl
           rotate_left
           ·simp only [Act.put,List.setIfInBounds_toArray,List.set_cons_zero,List.set_cons_succ,i64_w,i32_w]
            rfl
           refine pure_ (i:=18) (N:=some 32) (v:=?_) (a':=?_) #[true,true,true,true,true,true,true,true,true,true,true,true,true,true,true,true,true,true,true,false,false] rfl rfl (any_of HT_.out (by kernel_rfl)) (fun _ _ _ h => h) (Or.inl ⟨by rfl,?_⟩) ?_ ?_
           rotate_left
           ·intro w'
            go_simp
            with_reducible rfl
           rotate_left
           ·simp only [Act.put,List.setIfInBounds_toArray,List.set_cons_zero,List.set_cons_succ,i64_w,i32_w]
            rfl
           refine one_ (i:=19) (N:=some 5) #[true,true,true,true,true,true,true,true,true,true,true,true,true,true,true,true,true,true,true,true,false] rfl rfl (one_of HT_.out (by kernel_rfl)) (by decide) (fun K hK => ?_)
           refine box_step ?hg (N:=5) ?hd (cs:=#[.int .u64 0,.int .u64 0]) (t:=25) ?hr ?_;(case hd => rfl);(case hg => rfl);(case hr => first | (go_simp;done) | (go_simp;rfl))
           intro gb155 hg w54 hbox hb
           have HS0_:=(hb.cell (World.block_lt_of_cell? _ _ (hHeld.1))).trans (hHeld.1)
           have HS1_:=(hb.cell (World.block_lt_of_cell? _ _ (hHeld.2.1))).trans (hHeld.2.1)
           have HS2_:=(hb.cell (World.block_lt_of_cell? _ _ (hHeld.2.2.1))).trans (hHeld.2.2.1)
           have HS3_:=(hb.cell (World.block_lt_of_cell? _ _ (hHeld.2.2.2.1))).trans (hHeld.2.2.2.1)
           have HS4_:=(hb.cell (World.block_lt_of_cell? _ _ (hHeld.2.2.2.2.1))).trans (hHeld.2.2.2.2.1)
           have HS5_:=(hb.cell (World.block_lt_of_cell? _ _ (hHeld.2.2.2.2.2.1))).trans (hHeld.2.2.2.2.2.1)
           have HS6_:=(hb.cell (World.block_lt_of_cell? _ _ (hHeld.2.2.2.2.2.2.1))).trans (hHeld.2.2.2.2.2.2.1)
           have HS7_:=(hb.cell (World.block_lt_of_cell? _ _ (hHeld.2.2.2.2.2.2.2))).trans (hHeld.2.2.2.2.2.2.2)
           have n0_:=Aside0.mk (Kd.V_below (Kd.V_elderB (by (with_reducible repeat (first | apply Kd.V_alloc | apply Kd.V_drewN | apply Kd.V_drew));exact HO_0.out) gb155 (Nat.le_of_eq hg.symm)) hb)
           have n1_:=Aside0.mk (Kd.V_below (Kd.V_elderB (by (with_reducible repeat (first | apply Kd.V_alloc | apply Kd.V_drewN | apply Kd.V_drew));exact HO_1.out) gb155 (Nat.le_of_eq hg.symm)) hb)
           have n2_:=Aside0.mk (Kd.R_below (Kd.R_elderB (by (with_reducible repeat (first | apply Kd.R_alloc | apply Kd.R_drewN | apply Kd.R_drew));exact HO_4.out) gb155 (Nat.le_of_eq hg.symm)) hb)
           have n3_:=Aside0.mk (below_step (by repeat (first | (with_reducible first | exact HB.out | apply below_alloc | apply pw_below_drewN | apply below_drew1) | exact HB.out)) hb)
           have n4_:=Aside0.mk (hbox)
           have n5_:=Aside0.mk ((by rw [hg];exact (below_size (by repeat (first | (with_reducible first | exact HB.out | apply below_alloc | apply pw_below_drewN | apply below_drew1) | exact HB.out))) : w.heap.size ≤ gb155))
           have n6_:=Aside0.mk ((by rw [hg];exact (below_size (by repeat (first | (with_reducible first | exact HB.out | apply below_alloc | apply pw_below_drewN | apply below_drew1) | exact HB.out))) : w.heap.size ≤ gb155))
           clear HO_0
           clear HO_1
           clear HO_4
           clear HB
           have HO_0:=n0_
           have HO_1:=n1_
           have HO_4:=n2_
           have HB:=n3_
           have BK155:=n4_
           have GW155:=n5_
           have GE155:=n6_
           clear n0_ n1_ n2_ n3_ n4_ n5_ n6_
           clear hb hbox hg
           refine hK.out _ _ ⟨HS0_,HS1_,HS2_,HS3_,HS4_,HS5_,HS6_,HS7_⟩ (fun hHeld => ?_)
           clear hK K
           refine norm_ (a':=?_) ?_ ?_
           rotate_left
           ·show Act.put _ (some 5) _ = _
            simp only [Act.put,List.setIfInBounds_toArray,List.set_cons_zero,List.set_cons_succ,i64_w,i32_w]
            rfl
           refine one_ (i:=20) (N:=none) #[true,true,true,true,true,true,true,true,true,true,true,true,true,true,true,true,true,true,true,true,true] rfl rfl (one_of HT_.out (by kernel_rfl)) (by decide) (fun K hK => ?_)
           have hs55 : w54.cell? ⟨gb155,0,none⟩ = some (.int .u64 0):=(blk_cell BK155.out 0).trans rfl
           have hfs55:=blk_frozen BK155.out 0
           have hs56 : w54.cell? ⟨gb155,1,none⟩ = some (.int .u64 0):=(blk_cell BK155.out 1).trans rfl
           have hfs56:=blk_frozen BK155.out 1
           refine skip_ (w1:=?_) (by rfl) rfl ?_ ?_
           rotate_left
           ·go_simp
            rfl
           refine hK.out _ _ ⟨((cell_far (p:=⟨gb155,_,none⟩) (by first | exact V_blk HO_0.out (fun _ hk => hk.2) (by decide) (of_decide_eq_true (by assumption)) | (rw [add_block];exact V_blk HO_0.out (fun _ hk => hk.2) (by decide) (of_decide_eq_true (by assumption))) | (show (Addr.add _ _).block ≠ _;rw [add_block];exact V_blk HO_0.out (fun _ hk => hk.2) (by decide) (of_decide_eq_true (by assumption))) | (dsimp only;exact V_blk HO_0.out (fun _ hk => hk.2) (by decide) (of_decide_eq_true (by assumption)))) _).trans (((cell_far (p:=⟨gb155,_,none⟩) (by first | exact V_blk HO_0.out (fun _ hk => hk.2) (by decide) (of_decide_eq_true (by assumption)) | (rw [add_block];exact V_blk HO_0.out (fun _ hk => hk.2) (by decide) (of_decide_eq_true (by assumption))) | (show (Addr.add _ _).block ≠ _;rw [add_block];exact V_blk HO_0.out (fun _ hk => hk.2) (by decide) (of_decide_eq_true (by assumption))) | (dsimp only;exact V_blk HO_0.out (fun _ hk => hk.2) (by decide) (of_decide_eq_true (by assumption)))) _).trans (hHeld.1)))),((cell_far (p:=⟨gb155,_,none⟩) (by first | exact V_blk HO_0.out (fun _ hk => hk.2) (by decide) (of_decide_eq_true (by assumption)) | (rw [add_block];exact V_blk HO_0.out (fun _ hk => hk.2) (by decide) (of_decide_eq_true (by assumption))) | (show (Addr.add _ _).block ≠ _;rw [add_block];exact V_blk HO_0.out (fun _ hk => hk.2) (by decide) (of_decide_eq_true (by assumption))) | (dsimp only;exact V_blk HO_0.out (fun _ hk => hk.2) (by decide) (of_decide_eq_true (by assumption)))) _).trans (((cell_far (p:=⟨gb155,_,none⟩) (by first | exact V_blk HO_0.out (fun _ hk => hk.2) (by decide) (of_decide_eq_true (by assumption)) | (rw [add_block];exact V_blk HO_0.out (fun _ hk => hk.2) (by decide) (of_decide_eq_true (by assumption))) | (show (Addr.add _ _).block ≠ _;rw [add_block];exact V_blk HO_0.out (fun _ hk => hk.2) (by decide) (of_decide_eq_true (by assumption))) | (dsimp only;exact V_blk HO_0.out (fun _ hk => hk.2) (by decide) (of_decide_eq_true (by assumption)))) _).trans (hHeld.2.1)))),((cell_far (p:=⟨gb155,_,none⟩) (by first | exact V_blk HO_1.out (fun _ hk => hk.2) (by decide) (of_decide_eq_true (by assumption)) | (rw [add_block];exact V_blk HO_1.out (fun _ hk => hk.2) (by decide) (of_decide_eq_true (by assumption))) | (show (Addr.add _ _).block ≠ _;rw [add_block];exact V_blk HO_1.out (fun _ hk => hk.2) (by decide) (of_decide_eq_true (by assumption))) | (dsimp only;exact V_blk HO_1.out (fun _ hk => hk.2) (by decide) (of_decide_eq_true (by assumption)))) _).trans (((cell_far (p:=⟨gb155,_,none⟩) (by first | exact V_blk HO_1.out (fun _ hk => hk.2) (by decide) (of_decide_eq_true (by assumption)) | (rw [add_block];exact V_blk HO_1.out (fun _ hk => hk.2) (by decide) (of_decide_eq_true (by assumption))) | (show (Addr.add _ _).block ≠ _;rw [add_block];exact V_blk HO_1.out (fun _ hk => hk.2) (by decide) (of_decide_eq_true (by assumption))) | (dsimp only;exact V_blk HO_1.out (fun _ hk => hk.2) (by decide) (of_decide_eq_true (by assumption)))) _).trans (hHeld.2.2.1)))),((cell_far (p:=⟨gb155,_,none⟩) (by first | exact V_blk HO_1.out (fun _ hk => hk.2) (by decide) (of_decide_eq_true (by assumption)) | (rw [add_block];exact V_blk HO_1.out (fun _ hk => hk.2) (by decide) (of_decide_eq_true (by assumption))) | (show (Addr.add _ _).block ≠ _;rw [add_block];exact V_blk HO_1.out (fun _ hk => hk.2) (by decide) (of_decide_eq_true (by assumption))) | (dsimp only;exact V_blk HO_1.out (fun _ hk => hk.2) (by decide) (of_decide_eq_true (by assumption)))) _).trans (((cell_far (p:=⟨gb155,_,none⟩) (by first | exact V_blk HO_1.out (fun _ hk => hk.2) (by decide) (of_decide_eq_true (by assumption)) | (rw [add_block];exact V_blk HO_1.out (fun _ hk => hk.2) (by decide) (of_decide_eq_true (by assumption))) | (show (Addr.add _ _).block ≠ _;rw [add_block];exact V_blk HO_1.out (fun _ hk => hk.2) (by decide) (of_decide_eq_true (by assumption))) | (dsimp only;exact V_blk HO_1.out (fun _ hk => hk.2) (by decide) (of_decide_eq_true (by assumption)))) _).trans (hHeld.2.2.2.1)))),((cell_far (p:=⟨gb155,_,none⟩) (by first | exact V_blk HO_0.out (fun _ hk => hk.2) (by decide) (of_decide_eq_true (by assumption)) | (rw [add_block];exact V_blk HO_0.out (fun _ hk => hk.2) (by decide) (of_decide_eq_true (by assumption))) | (show (Addr.add _ _).block ≠ _;rw [add_block];exact V_blk HO_0.out (fun _ hk => hk.2) (by decide) (of_decide_eq_true (by assumption))) | (dsimp only;exact V_blk HO_0.out (fun _ hk => hk.2) (by decide) (of_decide_eq_true (by assumption)))) _).trans (((cell_far (p:=⟨gb155,_,none⟩) (by first | exact V_blk HO_0.out (fun _ hk => hk.2) (by decide) (of_decide_eq_true (by assumption)) | (rw [add_block];exact V_blk HO_0.out (fun _ hk => hk.2) (by decide) (of_decide_eq_true (by assumption))) | (show (Addr.add _ _).block ≠ _;rw [add_block];exact V_blk HO_0.out (fun _ hk => hk.2) (by decide) (of_decide_eq_true (by assumption))) | (dsimp only;exact V_blk HO_0.out (fun _ hk => hk.2) (by decide) (of_decide_eq_true (by assumption)))) _).trans (hHeld.2.2.2.2.1)))),((cell_far (p:=⟨gb155,_,none⟩) (by first | exact V_blk HO_0.out (fun _ hk => hk.2) (by decide) (of_decide_eq_true (by assumption)) | (rw [add_block];exact V_blk HO_0.out (fun _ hk => hk.2) (by decide) (of_decide_eq_true (by assumption))) | (show (Addr.add _ _).block ≠ _;rw [add_block];exact V_blk HO_0.out (fun _ hk => hk.2) (by decide) (of_decide_eq_true (by assumption))) | (dsimp only;exact V_blk HO_0.out (fun _ hk => hk.2) (by decide) (of_decide_eq_true (by assumption)))) _).trans (((cell_far (p:=⟨gb155,_,none⟩) (by first | exact V_blk HO_0.out (fun _ hk => hk.2) (by decide) (of_decide_eq_true (by assumption)) | (rw [add_block];exact V_blk HO_0.out (fun _ hk => hk.2) (by decide) (of_decide_eq_true (by assumption))) | (show (Addr.add _ _).block ≠ _;rw [add_block];exact V_blk HO_0.out (fun _ hk => hk.2) (by decide) (of_decide_eq_true (by assumption))) | (dsimp only;exact V_blk HO_0.out (fun _ hk => hk.2) (by decide) (of_decide_eq_true (by assumption)))) _).trans (hHeld.2.2.2.2.2.1)))),((cell_far (p:=⟨gb155,_,none⟩) (by first | exact V_blk HO_1.out (fun _ hk => hk.2) (by decide) (of_decide_eq_true (by assumption)) | (rw [add_block];exact V_blk HO_1.out (fun _ hk => hk.2) (by decide) (of_decide_eq_true (by assumption))) | (show (Addr.add _ _).block ≠ _;rw [add_block];exact V_blk HO_1.out (fun _ hk => hk.2) (by decide) (of_decide_eq_true (by assumption))) | (dsimp only;exact V_blk HO_1.out (fun _ hk => hk.2) (by decide) (of_decide_eq_true (by assumption)))) _).trans (((cell_far (p:=⟨gb155,_,none⟩) (by first | exact V_blk HO_1.out (fun _ hk => hk.2) (by decide) (of_decide_eq_true (by assumption)) | (rw [add_block];exact V_blk HO_1.out (fun _ hk => hk.2) (by decide) (of_decide_eq_true (by assumption))) | (show (Addr.add _ _).block ≠ _;rw [add_block];exact V_blk HO_1.out (fun _ hk => hk.2) (by decide) (of_decide_eq_true (by assumption))) | (dsimp only;exact V_blk HO_1.out (fun _ hk => hk.2) (by decide) (of_decide_eq_true (by assumption)))) _).trans (hHeld.2.2.2.2.2.2.1)))),((cell_far (p:=⟨gb155,_,none⟩) (by first | exact V_blk HO_1.out (fun _ hk => hk.2) (by decide) (of_decide_eq_true (by assumption)) | (rw [add_block];exact V_blk HO_1.out (fun _ hk => hk.2) (by decide) (of_decide_eq_true (by assumption))) | (show (Addr.add _ _).block ≠ _;rw [add_block];exact V_blk HO_1.out (fun _ hk => hk.2) (by decide) (of_decide_eq_true (by assumption))) | (dsimp only;exact V_blk HO_1.out (fun _ hk => hk.2) (by decide) (of_decide_eq_true (by assumption)))) _).trans (((cell_far (p:=⟨gb155,_,none⟩) (by first | exact V_blk HO_1.out (fun _ hk => hk.2) (by decide) (of_decide_eq_true (by assumption)) | (rw [add_block];exact V_blk HO_1.out (fun _ hk => hk.2) (by decide) (of_decide_eq_true (by assumption))) | (show (Addr.add _ _).block ≠ _;rw [add_block];exact V_blk HO_1.out (fun _ hk => hk.2) (by decide) (of_decide_eq_true (by assumption))) | (dsimp only;exact V_blk HO_1.out (fun _ hk => hk.2) (by decide) (of_decide_eq_true (by assumption)))) _).trans (hHeld.2.2.2.2.2.2.2))))⟩ (fun hHeld => ?_)
           clear hK K
           refine done_ (done_of HT_.out (by kernel_rfl)) ?_
           have hcz57_0 : w54.cell? ⟨gb155,0,none⟩ = some (.int .u64 0):=(blk_cell BK155.out 0).trans rfl
           have hcz57_1 : w54.cell? ⟨gb155,1,none⟩ = some (.int .u64 0):=(blk_cell BK155.out 1).trans rfl
           have hfz57_0:=blk_frozen BK155.out 0
           have hfz57_1:=blk_frozen BK155.out 1
           try go_wp2
           have n0_ : Aside0 (Kd.V k25 25 ((w54.setCell ⟨gb155,0,none⟩ (.int .u64 ji11)).setCell ⟨gb155,1,none⟩ (.int .u64 ji12)) w.heap.size (fun k_ => ((P0_ k_ ∨ P1_ k_) ∨ w.heap.size ≤ k_) ∧ some k_ ≠ (u4 : Value).ownBlock ∧ k_ ≠ gb155) (.slice (some ad151) x0_1.length co52) x0_1):=⟨by (with_reducible repeat (first | apply Kd.V_alloc | apply Kd.V_drewN | apply Kd.V_drew));exact Kd.V_mono (Kd.V_far (p:=⟨gb155,1,none⟩) (Kd.V_far (p:=⟨gb155,0,none⟩) (Kd.V_mono HO_0.out (fun k_ hk => (⟨hk,hk.2⟩ : _ ∧ k_ ≠ gb155))) (fun _ hk => hk.2) (.int .u64 ji11)) (fun _ hk => hk.2) (.int .u64 ji12)) (fun _ hk => ⟨hk.1.1.1,⟨hk.1.1.2,hk.1.2⟩⟩)⟩
           have n1_ : Aside0 (Kd.V k25 25 ((w54.setCell ⟨gb155,0,none⟩ (.int .u64 ji11)).setCell ⟨gb155,1,none⟩ (.int .u64 ji12)) w.heap.size (fun k_ => ((P0_ k_ ∨ P1_ k_) ∨ w.heap.size ≤ k_) ∧ some k_ ≠ (u4 : Value).ownBlock ∧ k_ ≠ gb155) (.slice (some ad152) x1_1.length co53) x1_1):=⟨by (with_reducible repeat (first | apply Kd.V_alloc | apply Kd.V_drewN | apply Kd.V_drew));exact Kd.V_mono (Kd.V_far (p:=⟨gb155,1,none⟩) (Kd.V_far (p:=⟨gb155,0,none⟩) (Kd.V_mono HO_1.out (fun k_ hk => (⟨hk,hk.2⟩ : _ ∧ k_ ≠ gb155))) (fun _ hk => hk.2) (.int .u64 ji11)) (fun _ hk => hk.2) (.int .u64 ji12)) (fun _ hk => ⟨hk.1.1.1,⟨hk.1.1.2,hk.1.2⟩⟩)⟩
           have n2_ : Aside0 (Kd.R k25 25 ((w54.setCell ⟨gb155,0,none⟩ (.int .u64 ji11)).setCell ⟨gb155,1,none⟩ (.int .u64 ji12)) w.heap.size (fun k_ => (w.heap.size ≤ k_) ∧ k_ ≠ gb155) u4 x4_1):=⟨by (with_reducible repeat (first | apply Kd.R_alloc | apply Kd.R_drewN | apply Kd.R_drew));exact Kd.R_mono (Kd.R_far (p:=⟨gb155,1,none⟩) (Kd.R_far (p:=⟨gb155,0,none⟩) (Kd.R_mono HO_4.out (fun k_ hk => (⟨hk,hk.2⟩ : _ ∧ k_ ≠ gb155))) (fun _ hk => hk.2) (.int .u64 ji11)) (fun _ hk => hk.2) (.int .u64 ji12)) (fun _ hk => ⟨hk.1.1,hk.1.2⟩)⟩
           have n3_ : Aside0 (((w54.setCell ⟨gb155,0,none⟩ (.int .u64 ji11)).setCell ⟨gb155,1,none⟩ (.int .u64 ji12)).heap[gb155]? = some (.cells #[.int .u64 ji11,.int .u64 ji12] 25 (0,0))):=⟨by (with_reducible repeat (first | refine blk_drewN ?_ _ | refine blk_drew ?_ | refine blk_alloc ?_ _));refine blk_put (cs:=#[.int .u64 ji11,.int .u64 0]) ?_ 1 _ rfl;(with_reducible repeat (first | refine blk_drewN ?_ _ | refine blk_drew ?_ | refine blk_alloc ?_ _));refine blk_put (cs:=#[.int .u64 0,.int .u64 0]) ?_ 0 _ rfl;(with_reducible repeat (first | refine blk_drewN ?_ _ | refine blk_drew ?_ | refine blk_alloc ?_ _));exact BK155.out⟩
           have n4_ : Aside0 (Below w.heap.size w ((w54.setCell ⟨gb155,0,none⟩ (.int .u64 ji11)).setCell ⟨gb155,1,none⟩ (.int .u64 ji12))):=⟨by repeat (first | (with_reducible first | exact HB.out | apply below_alloc | apply pw_below_drewN | apply below_drew1 | refine below_set ?_ GE155.out) | exact HB.out)⟩
           (try clear HO_0)
           (try clear HO_1)
           (try clear HO_4)
           (try clear BK155)
           (try clear HB)
           generalize ((w54.setCell ⟨gb155,0,none⟩ (.int .u64 ji11)).setCell ⟨gb155,1,none⟩ (.int .u64 ji12)) = w58 at n0_ n1_ n2_ n3_ n4_ ⊢
           have HO_0:=n0_
           have HO_1:=n1_
           have HO_4:=n2_
           have BK155:=n3_
           have HB:=n4_
           clear n0_ n1_ n2_ n3_ n4_
           have n0_:=Aside0.mk (Kd.V_drew HO_0.out)
           have n1_:=Aside0.mk (Kd.V_drew HO_1.out)
           have n2_:=Aside0.mk (Kd.R_drew HO_4.out)
           have n3_:=Aside0.mk (blk_drew BK155.out)
           have n4_:=Aside0.mk (below_drew1 HB.out)
           clear HO_0
           clear HO_1
           clear HO_4
           clear BK155
           clear HB
           have HO_0:=n0_
           have HO_1:=n1_
           have HO_4:=n2_
           have BK155:=n3_
           have HB:=n4_
           clear n0_ n1_ n2_ n3_ n4_
           have p171 : 0 ≤ (0 : Int):=(by omega)
           have q171 : 0 < (x0_1.length : Int):=of_decide_eq_true (by first | (with_reducible assumption) | assumption)
           obtain ⟨ad171,e171,hx171_0,hx171_1⟩:=at_T25 (Kd.V_reads' HO_0.out).2.2 0 p171 q171
           obtain rfl : ad151 = ad171:=(by injection e171)
           have qi171 : (0 < x0_1.length) = True:=eq_true (by omega)
           (try rw [show ((0 : Int)).toNat = 0 from rfl] at hx171_0)
           (try rw [show 0 * 2 = 0 from rfl] at hx171_0)
           (try rw [Addr.add_zero'] at hx171_0)
           (try rw [show ((0 : Int)).toNat = 0 from rfl] at hx171_1)
           (try rw [show 0 * 2 = 0 from rfl] at hx171_1)
           (try rw [Addr.add_zero'] at hx171_1)
           replace p171:=eq_true p171
           replace q171:=eq_true q171
           have p172 : 0 ≤ (0 : Int):=(by omega)
           have q172 : 0 < (x1_1.length : Int):=of_decide_eq_true (by first | (with_reducible assumption) | assumption)
           obtain ⟨ad172,e172,hx172_0,hx172_1⟩:=at_T25 (Kd.V_reads' HO_1.out).2.2 0 p172 q172
           obtain rfl : ad152 = ad172:=(by injection e172)
           have qi172 : (0 < x1_1.length) = True:=eq_true (by omega)
           (try rw [show ((0 : Int)).toNat = 0 from rfl] at hx172_0)
           (try rw [show 0 * 2 = 0 from rfl] at hx172_0)
           (try rw [Addr.add_zero'] at hx172_0)
           (try rw [show ((0 : Int)).toNat = 0 from rfl] at hx172_1)
           (try rw [show 0 * 2 = 0 from rfl] at hx172_1)
           (try rw [Addr.add_zero'] at hx172_1)
           replace p172:=eq_true p172
           replace q172:=eq_true q172
           refine start_ (n:=9) (S:=fun w' => w'.cell? ad151 = some (.int .u64 ((rd_T25 x0_1 0).f0)) ∧ w'.cell? ⟨ad151.block,ad151.off + 1,none⟩ = some (.int .u64 ((rd_T25 x0_1 0).f1)) ∧ w'.cell? ad152 = some (.int .u64 ((rd_T25 x1_1 0).f0)) ∧ w'.cell? ⟨ad152.block,ad152.off + 1,none⟩ = some (.int .u64 ((rd_T25 x1_1 0).f1))) (ds:=[]) #[false,false,false,false,false,false,false,false,false] (by kernel_rfl) rfl rfl ⟨hx171_0,hx171_1,hx172_0,hx172_1⟩ (fun hHeld => ?_);refine with_tabW span_Both.tab5 span_Both.bits5 (fun HT_ HW_ => ?_)
           generalize w58.drew = w59 at HO_0 HO_1 HO_4 BK155 HB hx171_0 hx171_1 hx172_0 hx172_1 hHeld ⊢
           refine pure_ (i:=0) (N:=some 42) (v:=?_) (a':=?_) #[true,false,false,false,false,false,false,false,false] rfl rfl (any_of HT_.out (by kernel_rfl)) (fun _ _ _ h => h) (Or.inl ⟨by rfl,?_⟩) ?_ ?_
           rotate_left
           ·intro w'
            go_simp
            with_reducible rfl
           rotate_left
           ·simp only [Act.put,List.setIfInBounds_toArray,List.set_cons_zero,List.set_cons_succ,i64_w,i32_w]
            rfl
           refine pure_ (i:=1) (N:=some 43) (v:=?_) (a':=?_) #[true,true,false,false,false,false,false,false,false] rfl rfl (any_of HT_.out (by kernel_rfl)) (fun _ _ _ h => h) (Or.inl ⟨by rfl,?_⟩) ?_ ?_
           rotate_left
           ·intro w'
            go_simp
            with_reducible rfl
           rotate_left
           ·simp only [Act.put,List.setIfInBounds_toArray,List.set_cons_zero,List.set_cons_succ,i64_w,i32_w]
            rfl
           refine pure_ (i:=2) (N:=some 44) (v:=?_) (a':=?_) #[true,true,true,false,false,false,false,false,false] rfl rfl (any_of HT_.out (by kernel_rfl)) (fun _ _ _ h => h) (Or.inl ⟨by rfl,?_⟩) ?_ ?_
           rotate_left
           ·intro w'
            go_simp
            with_reducible rfl
           rotate_left
           ·simp only [Act.put,List.setIfInBounds_toArray,List.set_cons_zero,List.set_cons_succ,i64_w,i32_w]
            rfl
           refine pure_ (i:=4) (N:=some 46) (v:=?_) (a':=?_) #[true,true,true,false,true,false,false,false,false] rfl rfl (any_of HT_.out (by kernel_rfl)) (fun _ _ _ h => h) (Or.inl ⟨by rfl,?_⟩) ?_ ?_
           rotate_left
           ·intro w'
            go_simp
            with_reducible rfl
           rotate_left
           ·simp only [Act.put,List.setIfInBounds_toArray,List.set_cons_zero,List.set_cons_succ,i64_w,i32_w]
            rfl
           refine pure_ (i:=5) (N:=some 47) (v:=?_) (a':=?_) #[true,true,true,false,true,true,false,false,false] rfl rfl (any_of HT_.out (by kernel_rfl)) (fun _ _ _ h => h) (Or.inl ⟨by rfl,?_⟩) ?_ ?_
           rotate_left
           ·intro w'
            go_simp
            with_reducible rfl
           rotate_left
           ·simp only [Act.put,List.setIfInBounds_toArray,List.set_cons_zero,List.set_cons_succ,i64_w,i32_w]
            rfl
           refine pure_ (i:=6) (N:=some 48) (v:=?_) (a':=?_) #[true,true,true,false,true,true,true,false,false] rfl rfl (any_of HT_.out (by kernel_rfl)) (fun _ _ _ h => h) (Or.inl ⟨by rfl,?_⟩) ?_ ?_
           rotate_left
           ·intro w'
            go_simp
            with_reducible rfl
           rotate_left
           ·simp only [Act.put,List.setIfInBounds_toArray,List.set_cons_zero,List.set_cons_succ,i64_w,i32_w]
            rfl
           refine take_ (i:=3) (N:=some 45) (v:=?_) (a':=?_) #[true,true,true,true,true,true,true,false,false] rfl rfl (take_ofW HT_.out HW_.out (by kernel_rfl)) (fun _ _ _ h => h) (Or.inl ⟨by rfl,?_⟩) hHeld ?_ ?_
           rotate_left
           ·rintro w' ⟨s0,s1,s2,s3⟩
            go_simp
            with_reducible rfl
           rotate_left
           ·simp only [Act.put,List.setIfInBounds_toArray,List.set_cons_zero,List.set_cons_succ,i64_w,i32_w]
            rfl
           refine take_ (i:=7) (N:=some 49) (v:=?_) (a':=?_) #[true,true,true,true,true,true,true,true,false] rfl rfl (take_ofW HT_.out HW_.out (by kernel_rfl)) (fun _ _ _ h => h) (Or.inl ⟨by rfl,?_⟩) hHeld ?_ ?_
           rotate_left
           ·rintro w' ⟨s0,s1,s2,s3⟩
            go_simp
            with_reducible rfl
           rotate_left
           ·simp only [Act.put,List.setIfInBounds_toArray,List.set_cons_zero,List.set_cons_succ,i64_w,i32_w]
            rfl
           refine pure_ (i:=8) (N:=some 50) (v:=?_) (a':=?_) #[true,true,true,true,true,true,true,true,true] rfl rfl (any_of HT_.out (by kernel_rfl)) (fun _ _ _ h => h) (Or.inl ⟨by rfl,?_⟩) ?_ ?_
           rotate_left
           ·intro w'
            go_simp
            with_reducible rfl
           rotate_left
           ·simp only [Act.put,List.setIfInBounds_toArray,List.set_cons_zero,List.set_cons_succ,i64_w,i32_w]
            rfl
           refine done_ (done_of HT_.out (by kernel_rfl)) ?_
           have q60 : (1 : Int) ≤ ((x1_1.length : Int) : Int):=of_decide_eq_true (by first | (with_reducible assumption) | assumption)
           obtain ⟨i060,hi060,_,hsz60,_⟩:=info_parts info25
           have hroom60 : x1_1.length ≤ co53:=(Kd.V_reads' HO_1.out).2.1
           have hC60 : Kd.F k25 _ _ (some ad152) x1_1.length x1_1:=(Kd.V_at (base:=w.heap.size) HO_1.out).2.2
           have hcut60:=cut_from (P:=Try.prog) 22 25 .i64 Try.underlying22 hi060 2 hsz60 (some ad152) x1_1.length co53 1 (by omega) q60
           have hr60:=Kd.F_cut (m:=(1 : Int).toNat) (c:=co53) hC60 (by omega) hroom60
           obtain ⟨A60,hA60⟩ : ∃ A1,A1 = (if co53 = (1 : Int).toNat then (some ad152) else ((some ad152) : Option Addr).map (·.add ((1 : Int).toNat * 2))):=⟨_,rfl⟩
           obtain ⟨c60,hc60⟩ : ∃ c1,c1 = co53 - (1 : Int).toNat:=⟨_,rfl⟩
           have hy60 : y178.length = x1_1.length - (1 : Int).toNat:=(by rw [Ny178.out,List.length_drop] <;> omega)
           rw [show (x1_1).drop (1 : Int).toNat = y178 from Ny178.out.symm] at hr60
           replace hr60 : Kd.F k25 _ _ A60 y178.length y178:=(by rw [hA60];exact hr60)
           rw [← hy60,← hA60,← hc60] at hcut60
           have HO182:=Aside0.mk (show Kd.V k25 25 _ w.heap.size _ (.slice A60 y178.length c60) y178 from Kd.V_mk (by rw [hy60,hc60];exact Nat.sub_le_sub_right hroom60 _) hr60)
           have HC182:=Aside0.mk (show y178.length ≤ c60 from by rw [hy60,hc60];exact Nat.sub_le_sub_right hroom60 _)
           clear hr60 hC60 hroom60 hi060 hsz60 hc60
           have KY60:=Aside0.mk hy60
           have KA60:=Aside0.mk hA60
           clear hy60 hA60
           replace q60:=eq_true q60
           try go_wp2
           go_roundg kj2
           case measure => have:=HK1.out;have:=HJ2.out;omega
           case rel => exact ⟨(x0_1),(y178),(x4_1),H',⟨by have:=HK1.out;have:=HJ2.out;omega⟩,⟨by (with_reducible repeat (first | apply Kd.V_alloc | apply Kd.V_drewN | apply Kd.V_drew));exact Kd.V_mono HO_0.out (fun _ hk => ⟨hk.1,hk.2.1⟩)⟩,⟨by (with_reducible repeat (first | apply Kd.V_alloc | apply Kd.V_drewN | apply Kd.V_drew));exact Kd.V_mono HO182.out (fun _ hk => ⟨hk.1,hk.2.1⟩)⟩,⟨by (with_reducible repeat (first | apply Kd.R_alloc | apply Kd.R_drewN | apply Kd.R_drew));exact Kd.R_mono HO_4.out (fun _ hk => hk.1)⟩,⟨by repeat (first | (with_reducible first | exact HB.out | apply below_alloc | apply pw_below_drewN | apply below_drew1 | refine below_set ?_ GE155.out) | exact HB.out)⟩⟩
          ·rw [if_neg c50] at H
           exact absurd H (by simp)
       ·rw [if_neg c10] at H
        exact absurd H (by simp)
      ·rw [if_neg c9] at H
       exact absurd H (by simp)
     ·replace c8:=Bool.eq_false_iff.mpr c8
      subst c8
      have H1 : (some x4_1) = some r:=by rw [if_neg (show ¬ (false = true) by decide)] at H;exact H
      clear H
      have H:=H1
      clear H1
      obtain rfl:=Option.some.inj H
      go_wp2
      go_ret
      exact ⟨_,by first | rfl | (simp [errW_none,errW_some] <;> rfl) | (simp [*,errW_none,errW_some] <;> rfl),by (with_reducible repeat (first | apply Kd.R_alloc | apply Kd.R_drewN | apply Kd.R_drew));exact HO_4.out,by repeat (first | (with_reducible first | exact HB.out | apply below_alloc | apply pw_below_drewN | apply below_drew1) | exact HB.out)⟩

end Go.Proofs.Ytgaccappklhojaa.P
