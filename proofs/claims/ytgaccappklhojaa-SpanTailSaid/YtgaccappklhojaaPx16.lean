-- Printed for this claim by xprint.py of this session: contracts of this session's own stand in for what the print does not take
import Derived.Test.YtgaccappklhojaaPx0
import Derived.Test.YtgaccappklhojaaPx2
import Derived.Test.YtgaccappklhojaaPx7
import Derived.Test.YtgaccappklhojaaPx8
import Derived.Test.YtgaccappklhojaaPx9
import Derived.Test.YtgaccappklhojaaPx10
import Derived.Test.YtgaccappklhojaaPx13
namespace Go.Proofs.Ytgaccappklhojaa.P
open Go.RowKit Go.Proofs.YtgaccappklhojaaW.PrintWords Go.Proofs.YtgaccappklhojaaW.PrintLast Go.Proofs.YtgaccappklhojaaW.PrintMore
attribute [local go_sem] max2_int min2_int max_two min_two max_three min_three max_four min_four   -- for this text's walks alone
set_option linter.unusedVariables false
set_option linter.unusedSimpArgs false

/-! ### wigwaglaw07_SpanTail: function 9 -/
mutual
def wigwaglaw07_SpanTail.j0 : Nat → List (S25) → Int → Bool → Bool → Option (Bool)
 | 0,_,_,_,_ => none
 | k + 1,x0,x1,x5,x17 => if x17 = true then (some x5) else ((span_Last.f x0 x1).bind fun t331 => (if (t331.length : Int) > (x0.length : Int) then (wigwaglaw07_SpanTail.j1 k x0 x5 t331 (t331.length : Int) true) else (if (t331.length : Int) > (mx x1 0) then (wigwaglaw07_SpanTail.j1 k x0 x5 t331 (t331.length : Int) true) else (if x1 ≥ (x0.length : Int) then (if (t331.length : Int) = (x0.length : Int) then (if x1 ≥ 0 then (if x1 < (x0.length : Int) then (wigwaglaw07_SpanTail.j1 k x0 x5 t331 (t331.length : Int) ((t331.length : Int) != x1)) else (wigwaglaw07_SpanTail.j1 k x0 x5 t331 (t331.length : Int) false)) else (wigwaglaw07_SpanTail.j1 k x0 x5 t331 (t331.length : Int) false)) else (wigwaglaw07_SpanTail.j1 k x0 x5 t331 (t331.length : Int) true)) else (if x1 ≥ 0 then (if x1 < (x0.length : Int) then (wigwaglaw07_SpanTail.j1 k x0 x5 t331 (t331.length : Int) ((t331.length : Int) != x1)) else (wigwaglaw07_SpanTail.j1 k x0 x5 t331 (t331.length : Int) false)) else (wigwaglaw07_SpanTail.j1 k x0 x5 t331 (t331.length : Int) false))))))
def wigwaglaw07_SpanTail.j1 : Nat → List (S25) → Bool → List (S25) → Int → Bool → Option (Bool)
 | 0,_,_,_,_,_ => none
 | k + 1,x0,x5,x6,x7,x60 => if x60 = true then (some false) else ((some (([] : List (S25)) : List (S25))).bind fun y334 => (if 0 ≤ (wrap64 ((x0.length : Int) - x7)) then (if (wrap64 ((x0.length : Int) - x7)) ≤ (x0.length : Int) then ((some (x0.drop ((wrap64 ((x0.length : Int) - x7)) : Int).toNat : List (S25))).bind fun y337 => (if y334.length + y337.length < 8796093022208 then ((wigwagref07_Same.f k x6 (y334 ++ y337)).bind fun t344 => (if x5 = true then (if t344 = true then ((span_Check.f k x6).bind fun t345 => (if t345 = true then ((span_Both.f k x0 x6).bind fun t346 => ((span_Size.f k t346).bind fun t349 => ((span_Size.f k x6).bind fun t350 => (some (t349 == t350))))) else (some false))) else (some false)) else (some false))) else (none))) else (none)) else (none)))
end
def wigwaglaw07_SpanTail.f (k : Nat) (l0 : List (S25)) (a1 : Int) : Option (Bool):=(wigwaglaw07_awake.f k).bind fun t328 => ((wigwaglaw07_few.f l0).bind fun t329 => (if t329 = true then ((span_Check.f k l0).bind fun t330 => (wigwaglaw07_SpanTail.j0 k l0 a1 t328 (!t330))) else (wigwaglaw07_SpanTail.j0 k l0 a1 t328 true)))
theorem wigwaglaw07_SpanTail.mono_l : ∀ k,(∀ y0 y1 y2 y3,LeO (wigwaglaw07_SpanTail.j0 k y0 y1 y2 y3) (wigwaglaw07_SpanTail.j0 (k + 1) y0 y1 y2 y3)) ∧ (∀ y0 y1 y2 y3 y4,LeO (wigwaglaw07_SpanTail.j1 k y0 y1 y2 y3 y4) (wigwaglaw07_SpanTail.j1 (k + 1) y0 y1 y2 y3 y4))
 | 0 => ⟨fun _ _ _ _ r h => by simp [wigwaglaw07_SpanTail.j0] at h,fun _ _ _ _ _ r h => by simp [wigwaglaw07_SpanTail.j1] at h⟩
 | k + 1 => by
  obtain ⟨ih0,ih1⟩:=wigwaglaw07_SpanTail.mono_l k
  refine ⟨?_,?_⟩
  ·intro y0 y1 y2 y3
   unfold wigwaglaw07_SpanTail.j0
   repeat' first
   | (with_reducible exact ih0 _ _ _ _)
   | (with_reducible exact ih1 _ _ _ _ _)
   | (with_reducible exact span_Both.mono _ _ _)
   | (with_reducible exact span_Check.mono _ _)
   | (with_reducible exact span_Size.mono _ _)
   | (with_reducible exact wigwaglaw07_awake.mono _)
   | (with_reducible exact wigwagref07_Same.mono _ _ _)
   | (with_reducible exact LeO.refl _)
   | (with_reducible exact LeO.none _)
   | (with_reducible refine LeO.ite ?_ ?_)
   | (with_reducible refine LeO.bind ?_ (fun _ => ?_))
   | exact ih0 _ _ _ _
   | exact ih1 _ _ _ _ _
   | exact span_Both.mono _ _ _
   | exact span_Check.mono _ _
   | exact span_Size.mono _ _
   | exact wigwaglaw07_awake.mono _
   | exact wigwagref07_Same.mono _ _ _
   | exact LeO.none _
   | refine LeO.ite ?_ ?_
   | refine LeO.bind ?_ (fun _ => ?_)
  ·intro y0 y1 y2 y3 y4
   unfold wigwaglaw07_SpanTail.j1
   repeat' first
   | (with_reducible exact ih0 _ _ _ _)
   | (with_reducible exact ih1 _ _ _ _ _)
   | (with_reducible exact span_Both.mono _ _ _)
   | (with_reducible exact span_Check.mono _ _)
   | (with_reducible exact span_Size.mono _ _)
   | (with_reducible exact wigwaglaw07_awake.mono _)
   | (with_reducible exact wigwagref07_Same.mono _ _ _)
   | (with_reducible exact LeO.refl _)
   | (with_reducible exact LeO.none _)
   | (with_reducible refine LeO.ite ?_ ?_)
   | (with_reducible refine LeO.bind ?_ (fun _ => ?_))
   | exact ih0 _ _ _ _
   | exact ih1 _ _ _ _ _
   | exact span_Both.mono _ _ _
   | exact span_Check.mono _ _
   | exact span_Size.mono _ _
   | exact wigwaglaw07_awake.mono _
   | exact wigwagref07_Same.mono _ _ _
   | exact LeO.none _
   | refine LeO.ite ?_ ?_
   | refine LeO.bind ?_ (fun _ => ?_)
theorem wigwaglaw07_SpanTail.mono : ∀ a0 a1 k,LeO (wigwaglaw07_SpanTail.f k a0 a1) (wigwaglaw07_SpanTail.f (k + 1) a0 a1):=by
 intro a0 a1 k
 obtain ⟨ih0,ih1⟩:=wigwaglaw07_SpanTail.mono_l k
 unfold wigwaglaw07_SpanTail.f
 repeat' first
   | (with_reducible exact ih0 _ _ _ _)
   | (with_reducible exact ih1 _ _ _ _ _)
   | (with_reducible exact span_Both.mono _ _ _)
   | (with_reducible exact span_Check.mono _ _)
   | (with_reducible exact span_Size.mono _ _)
   | (with_reducible exact wigwaglaw07_awake.mono _)
   | (with_reducible exact wigwagref07_Same.mono _ _ _)
   | (with_reducible exact LeO.refl _)
   | (with_reducible exact LeO.none _)
   | (with_reducible refine LeO.ite ?_ ?_)
   | (with_reducible refine LeO.bind ?_ (fun _ => ?_))
   | exact ih0 _ _ _ _
   | exact ih1 _ _ _ _ _
   | exact span_Both.mono _ _ _
   | exact span_Check.mono _ _
   | exact span_Size.mono _ _
   | exact wigwaglaw07_awake.mono _
   | exact wigwagref07_Same.mono _ _ _
   | exact LeO.none _
   | refine LeO.ite ?_ ?_
   | refine LeO.bind ?_ (fun _ => ?_)
set_option maxHeartbeats 8000000 in
set_option maxRecDepth 100000 in
theorem wigwaglaw07_SpanTail.calls (k : Nat) (A0 : Option Addr) (c0 : Nat) (l0 : List (S25)) (a1 : Int) (r : Bool) (w : World) (hr0 : Kd.C k25 w A0 l0.length l0) (hc0 : l0.length ≤ c0) (h : wigwaglaw07_SpanTail.f k l0 a1 = some r) :
  Calls Try.prog 9 #[.slice A0 l0.length c0,.int .i64 a1] w fun e w' => e = .returned (.bool r) ∧ Below w.heap.size w w':=by
 have HR0:=Aside0.mk hr0
 have HC0:=Aside0.mk hc0
 clear hr0 hc0
 have HB:=Aside0.mk (Below.refl w.heap.size w)
 have H : ((wigwaglaw07_awake.f k).bind fun t328 => ((wigwaglaw07_few.f l0).bind fun t329 => (if t329 = true then ((span_Check.f k l0).bind fun t330 => (wigwaglaw07_SpanTail.j0 k l0 a1 t328 (!t330))) else (wigwaglaw07_SpanTail.j0 k l0 a1 t328 true)))) = some r:=h
 clear h
 replace H:=Option.bind_eq_some_iff.mp H
 obtain ⟨t328,A30,H⟩:=H
 replace H : ((wigwaglaw07_few.f l0).bind fun t329 => (if t329 = true then ((span_Check.f k l0).bind fun t330 => (wigwaglaw07_SpanTail.j0 k l0 a1 t328 (!t330))) else (wigwaglaw07_SpanTail.j0 k l0 a1 t328 true))) = some r:=H
 have A3:=Aside0.mk A30
 clear A30
 have HC4:=Aside0.mk H
 clear H
 go_enter Try.func9,Try.ntmps9
 go_upto_region 2 with (first | ((with_reducible refine gate_callee (f:=10) rfl ?_);refine goesL_ (some 9) rfl rfl Try.func10 (by kernel_rfl) rfl #[] rfl (by (try simp only [List.map_toArray,List.map_cons,List.map_nil]);first | done | rfl | (simp only [List.length_drop,List.length_take];rfl)) ?_;(with_reducible refine (wigwaglaw07_awake.calls k  t328 _ A3.out).mono ?_);rintro e w5 ⟨rfl,hb⟩;refine ⟨_,rfl,?_⟩;have n0_:=Aside0.mk (below_step (by repeat (first | (with_reducible first | exact HB.out | apply below_alloc | apply pw_below_drewN | apply below_drew1) | exact HB.out)) hb);clear HB;have HB:=n0_;clear n0_;(try clear hb);(try clear hb2);(try clear hk);(try clear hi)))
 (try simp only [Act.put,List.setIfInBounds_toArray,List.set_cons_zero,List.set_cons_succ])
 go_cut [17] (fun v17 wc => ∃ (kq : Nat) (x17_3 : Bool),v17 = .bool x17_3 ∧ Aside0 (wigwaglaw07_SpanTail.j0 kq l0 a1 t328 x17_3 = some r) ∧ Aside0 (kq ≤ k) ∧ Aside0 (Below w.heap.size w wc))
 case first =>
  have H:=HC4.out
  clear HC4
  replace H:=Option.bind_eq_some_iff.mp H
  obtain ⟨t329,A60,H⟩:=H
  replace H : (if t329 = true then ((span_Check.f k l0).bind fun t330 => (wigwaglaw07_SpanTail.j0 k l0 a1 t328 (!t330))) else (wigwaglaw07_SpanTail.j0 k l0 a1 t328 true)) = some r:=H
  have A6:=Aside0.mk A60
  clear A60
  by_cases c7 : t329 = true
  ·subst c7
   have H1 : ((span_Check.f k l0).bind fun t330 => (wigwaglaw07_SpanTail.j0 k l0 a1 t328 (!t330))) = some r:=by rw [if_pos rfl] at H;exact H
   clear H
   have H:=H1
   clear H1
   replace H:=Option.bind_eq_some_iff.mp H
   obtain ⟨t330,A80,H⟩:=H
   replace H : (wigwaglaw07_SpanTail.j0 k l0 a1 t328 (!t330)) = some r:=H
   have A8:=Aside0.mk A80
   clear A80
   have H':=Aside0.mk H
   clear H
   go_wp2_with (first | ((with_reducible refine gate_callee (f:=11) rfl ?_);refine goesL_ (some 11) rfl rfl Try.func11 (by kernel_rfl) rfl #[.slice A0 l0.length c0] rfl (by (try simp only [List.map_toArray,List.map_cons,List.map_nil]);first | done | rfl | (simp only [List.length_drop,List.length_take];rfl)) ?_;(with_reducible refine (wigwaglaw07_few.calls _ _ l0 true _ ?side1 ?side2 A6.out).mono ?_);(case side1 => repeat (first | exact (Kd.C_below HR0.out HB.out) | (with_reducible refine Kd.C_alloc ?_ _) | (with_reducible refine Kd.C_drewN ?_ _) | (with_reducible refine Kd.C_drew ?_)));(case side2 => exact HC0.out);rintro e w' ⟨rfl,⟨nd,rfl⟩⟩;refine ⟨_,rfl,?_⟩) | (go_at_call 12;(with_reducible refine (span_Check.calls k _ _ l0 t330 _ ?side1 ?side2 A8.out).mono ?_);(case side1 => repeat (first | exact (Kd.C_below HR0.out (by repeat (first | (with_reducible first | exact HB.out | apply below_alloc | apply pw_below_drewN | apply below_drew1) | exact HB.out))) | (with_reducible refine Kd.C_alloc ?_ _) | (with_reducible refine Kd.C_drewN ?_ _) | (with_reducible refine Kd.C_drew ?_)));(case side2 => exact HC0.out);rintro e w9 ⟨rfl,hb⟩;have n0_:=Aside0.mk (below_step (by repeat (first | (with_reducible first | exact HB.out | apply below_alloc | apply pw_below_drewN | apply below_drew1) | exact HB.out)) hb);clear HB;have HB:=n0_;clear n0_;(try clear hb);(try clear hb2);(try clear hk);(try clear hi)))
   go_meet
   case rel => exact ⟨_,(!t330),(by first | rfl | (simp;done) | (simp [*];done)),H',⟨by first | omega | exact Nat.le_refl _⟩,⟨by repeat (first | (with_reducible first | exact HB.out | apply below_alloc | apply pw_below_drewN | apply below_drew1) | exact HB.out)⟩⟩
  ·replace c7:=Bool.eq_false_iff.mpr c7
   subst c7
   have H1 : (wigwaglaw07_SpanTail.j0 k l0 a1 t328 true) = some r:=by rw [if_neg (show ¬ (false = true) by decide)] at H;exact H
   clear H
   have H:=H1
   clear H1
   have H':=Aside0.mk H
   clear H
   go_wp2_with (first | ((with_reducible refine gate_callee (f:=11) rfl ?_);refine goesL_ (some 11) rfl rfl Try.func11 (by kernel_rfl) rfl #[.slice A0 l0.length c0] rfl (by (try simp only [List.map_toArray,List.map_cons,List.map_nil]);first | done | rfl | (simp only [List.length_drop,List.length_take];rfl)) ?_;(with_reducible refine (wigwaglaw07_few.calls _ _ l0 false _ ?side1 ?side2 A6.out).mono ?_);(case side1 => repeat (first | exact (Kd.C_below HR0.out HB.out) | (with_reducible refine Kd.C_alloc ?_ _) | (with_reducible refine Kd.C_drewN ?_ _) | (with_reducible refine Kd.C_drew ?_)));(case side2 => exact HC0.out);rintro e w' ⟨rfl,⟨nd,rfl⟩⟩;refine ⟨_,rfl,?_⟩))
   go_meet
   case rel => exact ⟨_,(true),(by first | rfl | (simp;done) | (simp [*];done)),H',⟨by first | omega | exact Nat.le_refl _⟩,⟨by repeat (first | (with_reducible first | exact HB.out | apply below_alloc | apply pw_below_drewN | apply below_drew1) | exact HB.out)⟩⟩
 case rest =>
  clear HC4
  try clear c1
  try clear p2
  try clear c7
  try clear c9
  obtain ⟨kq,x17_3,rfl,HA,HJ3,HB⟩:=hcut
  cases kq with
  | zero => exact absurd HA.out (by simp [wigwaglaw07_SpanTail.j0])
  | succ kj3 =>
   have H:=HA.out
   clear HA
   simp only [wigwaglaw07_SpanTail.j0] at H
   by_cases c10 : x17_3 = true
   ·subst c10
    have H1 : (some t328) = some r:=by rw [if_pos rfl] at H;exact H
    clear H
    have H:=H1
    clear H1
    obtain rfl:=Option.some.inj H
    go_wp2
    go_ret
    exact ⟨by first | rfl | (simp [errW_none,errW_some] <;> rfl) | (simp [*,errW_none,errW_some] <;> rfl),by repeat (first | (with_reducible first | exact HB.out | apply below_alloc | apply pw_below_drewN | apply below_drew1) | exact HB.out)⟩
   ·replace c10:=Bool.eq_false_iff.mpr c10
    subst c10
    have H1 : ((span_Last.f l0 a1).bind fun t331 => (if (t331.length : Int) > (l0.length : Int) then (wigwaglaw07_SpanTail.j1 kj3 l0 t328 t331 (t331.length : Int) true) else (if (t331.length : Int) > (mx a1 0) then (wigwaglaw07_SpanTail.j1 kj3 l0 t328 t331 (t331.length : Int) true) else (if a1 ≥ (l0.length : Int) then (if (t331.length : Int) = (l0.length : Int) then (if a1 ≥ 0 then (if a1 < (l0.length : Int) then (wigwaglaw07_SpanTail.j1 kj3 l0 t328 t331 (t331.length : Int) ((t331.length : Int) != a1)) else (wigwaglaw07_SpanTail.j1 kj3 l0 t328 t331 (t331.length : Int) false)) else (wigwaglaw07_SpanTail.j1 kj3 l0 t328 t331 (t331.length : Int) false)) else (wigwaglaw07_SpanTail.j1 kj3 l0 t328 t331 (t331.length : Int) true)) else (if a1 ≥ 0 then (if a1 < (l0.length : Int) then (wigwaglaw07_SpanTail.j1 kj3 l0 t328 t331 (t331.length : Int) ((t331.length : Int) != a1)) else (wigwaglaw07_SpanTail.j1 kj3 l0 t328 t331 (t331.length : Int) false)) else (wigwaglaw07_SpanTail.j1 kj3 l0 t328 t331 (t331.length : Int) false)))))) = some r:=by rw [if_neg (show ¬ (false = true) by decide)] at H;exact H
    clear H
    have H:=H1
    clear H1
    replace H:=Option.bind_eq_some_iff.mp H
    obtain ⟨t331,A110,H⟩:=H
    replace H : (if (t331.length : Int) > (l0.length : Int) then (wigwaglaw07_SpanTail.j1 kj3 l0 t328 t331 (t331.length : Int) true) else (if (t331.length : Int) > (mx a1 0) then (wigwaglaw07_SpanTail.j1 kj3 l0 t328 t331 (t331.length : Int) true) else (if a1 ≥ (l0.length : Int) then (if (t331.length : Int) = (l0.length : Int) then (if a1 ≥ 0 then (if a1 < (l0.length : Int) then (wigwaglaw07_SpanTail.j1 kj3 l0 t328 t331 (t331.length : Int) ((t331.length : Int) != a1)) else (wigwaglaw07_SpanTail.j1 kj3 l0 t328 t331 (t331.length : Int) false)) else (wigwaglaw07_SpanTail.j1 kj3 l0 t328 t331 (t331.length : Int) false)) else (wigwaglaw07_SpanTail.j1 kj3 l0 t328 t331 (t331.length : Int) true)) else (if a1 ≥ 0 then (if a1 < (l0.length : Int) then (wigwaglaw07_SpanTail.j1 kj3 l0 t328 t331 (t331.length : Int) ((t331.length : Int) != a1)) else (wigwaglaw07_SpanTail.j1 kj3 l0 t328 t331 (t331.length : Int) false)) else (wigwaglaw07_SpanTail.j1 kj3 l0 t328 t331 (t331.length : Int) false))))) = some r:=H
    have A11:=Aside0.mk A110
    clear A110
    have HC12:=Aside0.mk H
    clear H
    go_upto_region 6 with (first | ((with_reducible refine gate_callee (f:=23) rfl ?_);refine goesL_ (some 21) rfl rfl Try.func23 (by kernel_rfl) rfl #[.slice A0 l0.length c0,.int .i64 a1] rfl (by (try simp only [List.map_toArray,List.map_cons,List.map_nil]);first | done | rfl | (simp only [List.length_drop,List.length_take];rfl)) ?_;(with_reducible refine (span_Last.calls _ _ l0 a1 t331 _ ?side1 ?side2 A11.out).mono ?_);(case side1 => repeat (first | exact (Kd.C_below HR0.out HB.out) | (with_reducible refine Kd.C_alloc ?_ _) | (with_reducible refine Kd.C_drewN ?_ _) | (with_reducible refine Kd.C_drew ?_)));(case side2 => exact HC0.out);rintro e w13 ⟨v332,rfl,ho0,hb⟩;refine ⟨_,rfl,?_⟩;have n0_:=Aside0.mk (Kd.R_lower ho0 (below_size (by repeat (first | (with_reducible first | exact HB.out | apply below_alloc | apply pw_below_drewN | apply below_drew1) | exact HB.out))));have n1_:=Aside0.mk (below_step (by repeat (first | (with_reducible first | exact HB.out | apply below_alloc | apply pw_below_drewN | apply below_drew1) | exact HB.out)) hb);clear HB;have HO333:=n0_;have HB:=n1_;clear n0_ n1_;(try clear hb);(try clear hb2);(try clear hk);(try clear hi);(try clear ho0);obtain ⟨Ao14,co14,eo14⟩:=Kd.R_slice HO333.out;subst eo14))
    (try simp only [Act.put,List.setIfInBounds_toArray,List.set_cons_zero,List.set_cons_succ])
    go_cut [60] (fun v60 wc => ∃ (kq : Nat) (x60_11 : Bool),v60 = .bool x60_11 ∧ Aside0 (wigwaglaw07_SpanTail.j1 kq l0 t328 t331 (t331.length : Int) x60_11 = some r) ∧ Aside0 (kq ≤ kj3) ∧ Aside0 (Kd.R k25 25 wc w.heap.size (fun _ => True) (.slice Ao14 t331.length co14) t331) ∧ Aside0 (Below w.heap.size w wc))
    case first =>
     have H:=HC12.out
     clear HC12
     by_cases c15 : (t331.length : Int) > (l0.length : Int)
     ·rw [if_pos c15] at H
      have c15b0 : decide ((l0.length : Int) < (t331.length : Int)) = true:=decide_eq_true c15
      have c15b1 : decide (l0.length < t331.length) = true:=decide_eq_true (Int.ofNat_lt.mp c15)
      clear c15
      (first | rw [c15b0] | (simp only [i64_w,i32_w];rw [c15b0]) | skip)
      have H':=Aside0.mk H
      clear H
      go_wp2
      go_meet
      case rel => exact ⟨_,(true),(by first | rfl | (simp;done) | (simp [*];done)),H',⟨by have:=HJ3.out;first | omega | exact Nat.le_refl _⟩,⟨by (with_reducible repeat (first | apply Kd.R_alloc | apply Kd.R_drewN | apply Kd.R_drew));exact HO333.out⟩,⟨by repeat (first | (with_reducible first | exact HB.out | apply below_alloc | apply pw_below_drewN | apply below_drew1) | exact HB.out)⟩⟩
     ·rw [if_neg c15] at H
      have c15b0 : decide ((l0.length : Int) < (t331.length : Int)) = false:=decide_eq_false c15
      have c15b1 : decide (l0.length < t331.length) = false:=decide_eq_false (fun h => c15 (Int.ofNat_lt.mpr h))
      clear c15
      (first | rw [c15b0] | (simp only [i64_w,i32_w];rw [c15b0]) | skip)
      obtain ⟨ji16,hji16⟩ : ∃ j_ : Int,(mx a1 0) = j_:=⟨_,rfl⟩
      replace H : (if (t331.length : Int) > (ji16) then (wigwaglaw07_SpanTail.j1 kj3 l0 t328 t331 (t331.length : Int) true) else (if a1 ≥ (l0.length : Int) then (if (t331.length : Int) = (l0.length : Int) then (if a1 ≥ 0 then (if a1 < (l0.length : Int) then (wigwaglaw07_SpanTail.j1 kj3 l0 t328 t331 (t331.length : Int) ((t331.length : Int) != a1)) else (wigwaglaw07_SpanTail.j1 kj3 l0 t328 t331 (t331.length : Int) false)) else (wigwaglaw07_SpanTail.j1 kj3 l0 t328 t331 (t331.length : Int) false)) else (wigwaglaw07_SpanTail.j1 kj3 l0 t328 t331 (t331.length : Int) true)) else (if a1 ≥ 0 then (if a1 < (l0.length : Int) then (wigwaglaw07_SpanTail.j1 kj3 l0 t328 t331 (t331.length : Int) ((t331.length : Int) != a1)) else (wigwaglaw07_SpanTail.j1 kj3 l0 t328 t331 (t331.length : Int) false)) else (wigwaglaw07_SpanTail.j1 kj3 l0 t328 t331 (t331.length : Int) false)))) = some r:=by first | (rw [hji16] at H;exact H) | (simp only [hji16] at H ⊢;exact H)
      (try (have hji16l : 0 ≤ ji16:=by (rw [← hji16];unfold mx;(repeat' split) <;> omega)))
      (try (have hji16m : 0 ≤ ji16:=by omega))
      have hji16_ : (if a1 < 0 then 0 else a1) = ji16:=hji16
      by_cases c17 : (t331.length : Int) > (ji16)
      ·rw [if_pos c17] at H
       have c17b0 : decide ((ji16) < (t331.length : Int)) = true:=decide_eq_true c17
       clear c17
       have H':=Aside0.mk H
       clear H
       go_wp2
       go_meet
       case rel => exact ⟨_,(true),(by first | rfl | (simp;done) | (simp [*];done)),H',⟨by have:=HJ3.out;first | omega | exact Nat.le_refl _⟩,⟨by (with_reducible repeat (first | apply Kd.R_alloc | apply Kd.R_drewN | apply Kd.R_drew));exact HO333.out⟩,⟨by repeat (first | (with_reducible first | exact HB.out | apply below_alloc | apply pw_below_drewN | apply below_drew1) | exact HB.out)⟩⟩
      ·rw [if_neg c17] at H
       have c17b0 : decide ((ji16) < (t331.length : Int)) = false:=decide_eq_false c17
       clear c17
       by_cases c18 : a1 ≥ (l0.length : Int)
       ·rw [if_pos c18] at H
        have c18b0 : decide ((l0.length : Int) ≤ a1) = true:=decide_eq_true c18
        clear c18
        by_cases c19 : (t331.length : Int) = (l0.length : Int)
        ·rw [if_pos c19] at H
         have c19b0 : ((t331.length : Int) == (l0.length : Int)) = true:=beq_iff_eq.mpr c19
         have c19b1 : ((t331.length : Int) != (l0.length : Int)) = false:=bne_eq_false_iff_eq.mpr c19
         have c19b2 : (t331.length == l0.length) = true:=by first | simpa using c19 | (simp at c19 ⊢;omega)
         clear c19
         by_cases c20 : a1 ≥ 0
         ·rw [if_pos c20] at H
          have c20b0 : decide (0 ≤ a1) = true:=decide_eq_true c20
          clear c20
          by_cases c21 : a1 < (l0.length : Int)
          ·rw [if_pos c21] at H
           have c21b0 : decide (a1 < (l0.length : Int)) = true:=decide_eq_true c21
           clear c21
           have H':=Aside0.mk H
           clear H
           go_wp2
           go_meet
           case rel => exact ⟨_,(((t331.length : Int) != a1)),(by first | rfl | (simp;done) | (simp [*];done)),H',⟨by have:=HJ3.out;first | omega | exact Nat.le_refl _⟩,⟨by (with_reducible repeat (first | apply Kd.R_alloc | apply Kd.R_drewN | apply Kd.R_drew));exact HO333.out⟩,⟨by repeat (first | (with_reducible first | exact HB.out | apply below_alloc | apply pw_below_drewN | apply below_drew1) | exact HB.out)⟩⟩
          ·rw [if_neg c21] at H
           have c21b0 : decide (a1 < (l0.length : Int)) = false:=decide_eq_false c21
           clear c21
           have H':=Aside0.mk H
           clear H
           go_wp2
           go_meet
           case rel => exact ⟨_,(false),(by first | rfl | (simp;done) | (simp [*];done)),H',⟨by have:=HJ3.out;first | omega | exact Nat.le_refl _⟩,⟨by (with_reducible repeat (first | apply Kd.R_alloc | apply Kd.R_drewN | apply Kd.R_drew));exact HO333.out⟩,⟨by repeat (first | (with_reducible first | exact HB.out | apply below_alloc | apply pw_below_drewN | apply below_drew1) | exact HB.out)⟩⟩
         ·rw [if_neg c20] at H
          have c20b0 : decide (0 ≤ a1) = false:=decide_eq_false c20
          clear c20
          have H':=Aside0.mk H
          clear H
          go_wp2
          go_meet
          case rel => exact ⟨_,(false),(by first | rfl | (simp;done) | (simp [*];done)),H',⟨by have:=HJ3.out;first | omega | exact Nat.le_refl _⟩,⟨by (with_reducible repeat (first | apply Kd.R_alloc | apply Kd.R_drewN | apply Kd.R_drew));exact HO333.out⟩,⟨by repeat (first | (with_reducible first | exact HB.out | apply below_alloc | apply pw_below_drewN | apply below_drew1) | exact HB.out)⟩⟩
        ·rw [if_neg c19] at H
         have c19b0 : ((t331.length : Int) == (l0.length : Int)) = false:=beq_eq_false_iff_ne.mpr c19
         have c19b1 : ((t331.length : Int) != (l0.length : Int)) = true:=bne_iff_ne.mpr c19
         have c19b2 : (t331.length == l0.length) = false:=by first | simpa using c19 | (simp at c19 ⊢;omega)
         have H':=Aside0.mk H
         clear H
         go_wp2
         go_meet
         case rel => exact ⟨_,(true),(by first | rfl | (simp;done) | (simp [*];done)),H',⟨by have:=HJ3.out;first | omega | exact Nat.le_refl _⟩,⟨by (with_reducible repeat (first | apply Kd.R_alloc | apply Kd.R_drewN | apply Kd.R_drew));exact HO333.out⟩,⟨by repeat (first | (with_reducible first | exact HB.out | apply below_alloc | apply pw_below_drewN | apply below_drew1) | exact HB.out)⟩⟩
       ·rw [if_neg c18] at H
        have c18b0 : decide ((l0.length : Int) ≤ a1) = false:=decide_eq_false c18
        clear c18
        by_cases c22 : a1 ≥ 0
        ·rw [if_pos c22] at H
         have c22b0 : decide (0 ≤ a1) = true:=decide_eq_true c22
         clear c22
         by_cases c23 : a1 < (l0.length : Int)
         ·rw [if_pos c23] at H
          have c23b0 : decide (a1 < (l0.length : Int)) = true:=decide_eq_true c23
          clear c23
          have H':=Aside0.mk H
          clear H
          go_wp2
          go_meet
          case rel => exact ⟨_,(((t331.length : Int) != a1)),(by first | rfl | (simp;done) | (simp [*];done)),H',⟨by have:=HJ3.out;first | omega | exact Nat.le_refl _⟩,⟨by (with_reducible repeat (first | apply Kd.R_alloc | apply Kd.R_drewN | apply Kd.R_drew));exact HO333.out⟩,⟨by repeat (first | (with_reducible first | exact HB.out | apply below_alloc | apply pw_below_drewN | apply below_drew1) | exact HB.out)⟩⟩
         ·rw [if_neg c23] at H
          have c23b0 : decide (a1 < (l0.length : Int)) = false:=decide_eq_false c23
          clear c23
          have H':=Aside0.mk H
          clear H
          go_wp2
          go_meet
          case rel => exact ⟨_,(false),(by first | rfl | (simp;done) | (simp [*];done)),H',⟨by have:=HJ3.out;first | omega | exact Nat.le_refl _⟩,⟨by (with_reducible repeat (first | apply Kd.R_alloc | apply Kd.R_drewN | apply Kd.R_drew));exact HO333.out⟩,⟨by repeat (first | (with_reducible first | exact HB.out | apply below_alloc | apply pw_below_drewN | apply below_drew1) | exact HB.out)⟩⟩
        ·rw [if_neg c22] at H
         have c22b0 : decide (0 ≤ a1) = false:=decide_eq_false c22
         clear c22
         have H':=Aside0.mk H
         clear H
         go_wp2
         go_meet
         case rel => exact ⟨_,(false),(by first | rfl | (simp;done) | (simp [*];done)),H',⟨by have:=HJ3.out;first | omega | exact Nat.le_refl _⟩,⟨by (with_reducible repeat (first | apply Kd.R_alloc | apply Kd.R_drewN | apply Kd.R_drew));exact HO333.out⟩,⟨by repeat (first | (with_reducible first | exact HB.out | apply below_alloc | apply pw_below_drewN | apply below_drew1) | exact HB.out)⟩⟩
    case rest =>
     clear HC12
     try clear c1
     try clear c2
     try clear p2
     try clear c7
     try clear c9
     try clear c10
     try clear c11
     try clear c15
     try clear c15b0
     try clear c15b1
     try clear c17
     try clear c17b0
     try clear c18
     try clear c18b0
     try clear c19
     try clear c19b0
     try clear c19b1
     try clear c19b2
     try clear c20
     try clear c20b0
     try clear c21
     try clear c21b0
     try clear c22
     try clear c22b0
     try clear c23
     try clear c23b0
     try clear p2
     obtain ⟨kq,x60_11,rfl,HA,HJ11,HO_6,HB⟩:=hcut
     cases kq with
     | zero => exact absurd HA.out (by simp [wigwaglaw07_SpanTail.j1])
     | succ kj11 =>
      have H:=HA.out
      clear HA
      simp only [wigwaglaw07_SpanTail.j1] at H
      by_cases c24 : x60_11 = true
      ·subst c24
       have H1 : (some false) = some r:=by rw [if_pos rfl] at H;exact H
       clear H
       have H:=H1
       clear H1
       obtain rfl:=Option.some.inj H
       go_wp2
       go_ret
       exact ⟨by first | rfl | (simp [errW_none,errW_some] <;> rfl) | (simp [*,errW_none,errW_some] <;> rfl),by repeat (first | (with_reducible first | exact HB.out | apply below_alloc | apply pw_below_drewN | apply below_drew1) | exact HB.out)⟩
      ·replace c24:=Bool.eq_false_iff.mpr c24
       subst c24
       have H1 : ((some (([] : List (S25)) : List (S25))).bind fun y334 => (if 0 ≤ (wrap64 ((l0.length : Int) - (t331.length : Int))) then (if (wrap64 ((l0.length : Int) - (t331.length : Int))) ≤ (l0.length : Int) then ((some (l0.drop ((wrap64 ((l0.length : Int) - (t331.length : Int))) : Int).toNat : List (S25))).bind fun y337 => (if y334.length + y337.length < 8796093022208 then ((wigwagref07_Same.f kj11 t331 (y334 ++ y337)).bind fun t344 => (if t328 = true then (if t344 = true then ((span_Check.f kj11 t331).bind fun t345 => (if t345 = true then ((span_Both.f kj11 l0 t331).bind fun t346 => ((span_Size.f kj11 t346).bind fun t349 => ((span_Size.f kj11 t331).bind fun t350 => (some (t349 == t350))))) else (some false))) else (some false)) else (some false))) else (none))) else (none)) else (none))) = some r:=by rw [if_neg (show ¬ (false = true) by decide)] at H;exact H
       clear H
       have H:=H1
       clear H1
       obtain ⟨y334,hy334⟩ : ∃ y_ : List (S25),y_ = (([] : List (S25))):=⟨_,rfl⟩
       replace H : (if 0 ≤ (wrap64 ((l0.length : Int) - (t331.length : Int))) then (if (wrap64 ((l0.length : Int) - (t331.length : Int))) ≤ (l0.length : Int) then ((some (l0.drop ((wrap64 ((l0.length : Int) - (t331.length : Int))) : Int).toNat : List (S25))).bind fun y337 => (if y334.length + y337.length < 8796093022208 then ((wigwagref07_Same.f kj11 t331 (y334 ++ y337)).bind fun t344 => (if t328 = true then (if t344 = true then ((span_Check.f kj11 t331).bind fun t345 => (if t345 = true then ((span_Both.f kj11 l0 t331).bind fun t346 => ((span_Size.f kj11 t346).bind fun t349 => ((span_Size.f kj11 t331).bind fun t350 => (some (t349 == t350))))) else (some false))) else (some false)) else (some false))) else (none))) else (none)) else (none)) = some r:=by first | (rw [hy334];with_reducible exact H) | (have H2_:=(Option.bind_some _ _).symm.trans H;rw [hy334];with_reducible exact H2_) | (have H2_:=(Option.bind_some _ _).symm.trans H;with_reducible exact H2_) | with_reducible exact H | (rw [hy334];exact H) | exact H
       have Ny334:=Aside0.mk hy334
       clear hy334
       obtain ⟨ji25,hji25⟩ : ∃ j_ : Int,(wrap64 ((l0.length : Int) - (t331.length : Int))) = j_:=⟨_,rfl⟩
       replace H : (if 0 ≤ (ji25) then (if (ji25) ≤ (l0.length : Int) then ((some (l0.drop ((ji25) : Int).toNat : List (S25))).bind fun y337 => (if y334.length + y337.length < 8796093022208 then ((wigwagref07_Same.f kj11 t331 (y334 ++ y337)).bind fun t344 => (if t328 = true then (if t344 = true then ((span_Check.f kj11 t331).bind fun t345 => (if t345 = true then ((span_Both.f kj11 l0 t331).bind fun t346 => ((span_Size.f kj11 t346).bind fun t349 => ((span_Size.f kj11 t331).bind fun t350 => (some (t349 == t350))))) else (some false))) else (some false)) else (some false))) else (none))) else (none)) else (none)) = some r:=by first | (rw [hji25] at H;exact H) | (simp only [hji25] at H ⊢;exact H)
       have hji25w : (IntKind.i64.wrap ((l0.length : Int) - (t331.length : Int))) = ji25:=(i64_w _).trans hji25
       by_cases c26 : 0 ≤ (ji25)
       ·rw [if_pos c26] at H
        have c26b0:=eq_true c26
        have c26b1 : decide (0 ≤ (ji25)) = true:=decide_eq_true c26
        clear c26
        by_cases c27 : (ji25) ≤ (l0.length : Int)
        ·rw [if_pos c27] at H
         have c27b0:=eq_true c27
         have c27b1 : decide ((ji25) ≤ (l0.length : Int)) = true:=decide_eq_true c27
         clear c27
         obtain ⟨y337,hy337⟩ : ∃ y_ : List (S25),y_ = (l0.drop ((ji25) : Int).toNat):=⟨_,rfl⟩
         replace H : (if y334.length + y337.length < 8796093022208 then ((wigwagref07_Same.f kj11 t331 (y334 ++ y337)).bind fun t344 => (if t328 = true then (if t344 = true then ((span_Check.f kj11 t331).bind fun t345 => (if t345 = true then ((span_Both.f kj11 l0 t331).bind fun t346 => ((span_Size.f kj11 t346).bind fun t349 => ((span_Size.f kj11 t331).bind fun t350 => (some (t349 == t350))))) else (some false))) else (some false)) else (some false))) else (none)) = some r:=by first | (rw [hy337];with_reducible exact H) | (have H2_:=(Option.bind_some _ _).symm.trans H;rw [hy337];with_reducible exact H2_) | (have H2_:=(Option.bind_some _ _).symm.trans H;with_reducible exact H2_) | with_reducible exact H | (rw [hy337];exact H) | exact H
         have Ny337:=Aside0.mk hy337
         clear hy337
         by_cases c28 : y334.length + y337.length < 8796093022208
         ·rw [if_pos c28] at H
          have LMc28:=Aside0.mk c28
          clear c28
          obtain ⟨y341,hy341⟩ : ∃ y_ : List (S25),y_ = (y334 ++ y337):=⟨_,rfl⟩
          replace H : ((wigwagref07_Same.f kj11 t331 y341).bind fun t344 => (if t328 = true then (if t344 = true then ((span_Check.f kj11 t331).bind fun t345 => (if t345 = true then ((span_Both.f kj11 l0 t331).bind fun t346 => ((span_Size.f kj11 t346).bind fun t349 => ((span_Size.f kj11 t331).bind fun t350 => (some (t349 == t350))))) else (some false))) else (some false)) else (some false))) = some r:=by first | (rw [hy341];with_reducible exact H) | (have H2_:=(Option.bind_some _ _).symm.trans H;rw [hy341];with_reducible exact H2_) | (have H2_:=(Option.bind_some _ _).symm.trans H;with_reducible exact H2_) | with_reducible exact H | (rw [hy341];exact H) | exact H
          have Ny341:=Aside0.mk hy341
          clear hy341
          replace H:=Option.bind_eq_some_iff.mp H
          obtain ⟨t344,A290,H⟩:=H
          replace H : (if t328 = true then (if t344 = true then ((span_Check.f kj11 t331).bind fun t345 => (if t345 = true then ((span_Both.f kj11 l0 t331).bind fun t346 => ((span_Size.f kj11 t346).bind fun t349 => ((span_Size.f kj11 t331).bind fun t350 => (some (t349 == t350))))) else (some false))) else (some false)) else (some false)) = some r:=H
          have A29:=Aside0.mk A290
          clear A290
          have HS30:=Aside0.mk H
          clear H
          go_upto_region 9 with (first | ((with_reducible refine gate_dst (N:=62) rfl ?_);(try (refine gate_guard (by rfl) ?_;dsimp only));refine Kd.R_lit k25 _ 25 ?hg (N:=62) ?hd (xs:=([] : List (S25))) (inner:=[]) (ok:=fun _ => True) (okp:=fun _ => True) ?hr ?hp (fun _ hk => hk) trivial (Below.refl _ _) (Nat.le_refl _) (by simp) ?_;(case hd => rfl);(case hg => rfl);(case hr => first | (go_simp;done) | (go_simp;rfl));(case hp => exact (Reps.none _ _));intro v335 w31 ho32 hb hg_ hnew_;clear hg_ hnew_;(first | rw [← Ny334.out] at ho32 | (simp only [Int.reduceToNat] at ho32;rw [← Ny334.out] at ho32));have n0_:=Aside0.mk (Kd.R_elder' (by (with_reducible repeat (first | apply Kd.R_alloc | apply Kd.R_drewN | apply Kd.R_drew));exact HO_6.out) (Kd.R_base ho32) hb);have n1_:=Aside0.mk (Kd.R_lower (Kd.R_new' ho32 (Kd.R_lt (by (with_reducible repeat (first | apply Kd.R_alloc | apply Kd.R_drewN | apply Kd.R_drew));exact HO_6.out))) (below_size (by repeat (first | (with_reducible first | exact HB.out | apply below_alloc | apply pw_below_drewN | apply below_drew1) | exact HB.out))));have n2_:=Aside0.mk (below_step (by repeat (first | (with_reducible first | exact HB.out | apply below_alloc | apply pw_below_drewN | apply below_drew1) | exact HB.out)) hb);clear HO_6;clear HB;have HO_6:=n0_;have HO336:=n1_;have HB:=n2_;clear n0_ n1_ n2_;clear hb ho32;have q33 : ((ji25) : Int) ≤ ((l0.length : Int) : Int):=of_decide_eq_true (by first | (with_reducible assumption) | assumption);obtain ⟨i033,hi033,_,hsz33,_⟩:=info_parts info25;have hroom33 : l0.length ≤ c0:=HC0.out;have hC33 : Kd.C k25 _ A0 l0.length l0:=HR0.out;have q033 : (0 : Int) ≤ ((ji25) : Int):=of_decide_eq_true (by first | (with_reducible assumption) | assumption);have hcut33:=cut_from (P:=Try.prog) 22 25 .i64 Try.underlying22 hi033 2 hsz33 A0 l0.length c0 (ji25) q033 q33;have hr33:=Kd.C_drop (m:=((ji25) : Int).toNat) (c:=c0) hC33 (by omega) hroom33;obtain ⟨A33,hA33⟩ : ∃ A1,A1 = (if c0 = ((ji25) : Int).toNat then A0 else (A0 : Option Addr).map (·.add (((ji25) : Int).toNat * 2))):=⟨_,rfl⟩;obtain ⟨c33,hc33⟩ : ∃ c1,c1 = c0 - ((ji25) : Int).toNat:=⟨_,rfl⟩;have hy33 : y337.length = l0.length - ((ji25) : Int).toNat:=(by rw [Ny337.out,List.length_drop] <;> omega);rw [show (l0).drop ((ji25) : Int).toNat = y337 from Ny337.out.symm] at hr33;replace hr33 : Kd.C k25 _ A33 y337.length y337:=(by rw [hA33];exact hr33);rw [← hy33,← hA33,← hc33] at hcut33;have HR340:=Aside0.mk hr33;have HC340:=Aside0.mk (show y337.length ≤ c33 from by rw [hy33,hc33];exact Nat.sub_le_sub_right hroom33 _);clear hr33 hC33 hroom33 hi033 hsz33 hc33;have KY33:=Aside0.mk hy33;have KA33:=Aside0.mk hA33;clear hy33 hA33;replace q33:=eq_true q33) | ((with_reducible refine gate_builtin (b:=.append) (xs:=#[.tmp 62,.tmp 68]) rfl ?_);(try (refine gate_guard (by rfl) ?_;dsimp only));at_builtin;refine Kd.R_append_rows k25 (w0:=w) w.heap.size rfl (.tmp 62) (.tmp 68) 22 25 (.agg #[(.int .u64 0),(.int .u64 0)]) 16 rfl Try.underlying22 info25 rfl (by decide) (by omega) v335 y334 y337 _ _ _ (fun k_ => some k_ ≠ (.slice Ao14 t331.length co14 : Value).ownBlock) (fun _ => False) rfl rfl ?aO ?aR (fun _ _ h => h) (fun _ h => h.elim) ?aF ?aB ?aS ?aL ?_;(case aR => repeat (first | exact (Kd.C_below HR340.out HB.out) | (with_reducible refine Kd.C_alloc ?_ _) | (with_reducible refine Kd.C_drewN ?_ _) | (with_reducible refine Kd.C_drew ?_)));(case aB => exact (by repeat (first | (with_reducible first | exact HB.out | apply below_alloc | apply pw_below_drewN | apply below_drew1) | exact HB.out)));(case aF => exact (fun k_ hk => Kd.fresh' (Kd.R_lt (by (with_reducible repeat (first | apply Kd.R_alloc | apply Kd.R_drewN | apply Kd.R_drew));exact HO_6.out)) k_ hk));(case aO => exact (by (with_reducible repeat (first | apply Kd.R_alloc | apply Kd.R_drewN | apply Kd.R_drew));exact Kd.R_mono HO336.out (fun _ hk => hk.2)));(case aS => exact (below_size (by repeat (first | (with_reducible first | exact HB.out | apply below_alloc | apply pw_below_drewN | apply below_drew1) | exact HB.out))));(case aL => have:=LMc28.out;omega);intro v342 w34 ho hb hg hat;rw [← Ny341.out] at ho;have n0_:=Aside0.mk (Kd.R_after (ok:=(fun _ => True)) (by (with_reducible repeat (first | apply Kd.R_alloc | apply Kd.R_drewN | apply Kd.R_drew));exact HO_6.out) hg hat);have n1_:=Aside0.mk (hb);have n2_:=Aside0.mk (ho);clear HO_6;clear HB;clear HO336;have HO_6:=n0_;have HB:=n1_;have HO343:=n2_;clear n0_ n1_ n2_;clear ho hb hg hat;obtain ⟨Ao35,co35,eo35⟩:=Kd.R_slice HO343.out;subst eo35) | ((with_reducible refine gate_callee (f:=16) rfl ?_);refine goesL_ (some 70) rfl rfl Try.func16 (by kernel_rfl) rfl #[.slice Ao14 t331.length co14,.slice Ao35 y341.length co35] rfl (by (try simp only [List.map_toArray,List.map_cons,List.map_nil]);first | done | rfl | (simp only [List.length_drop,List.length_take];rfl)) ?_;(with_reducible refine (wigwagref07_Same.calls kj11 _ _ t331 _ _ y341 t344 _ ?side1 ?side2 ?side3 ?side4 A29.out).mono ?_);(case side1 => repeat (first | exact (Kd.R_reads' HO_6.out).2.2 | (with_reducible refine Kd.C_alloc ?_ _) | (with_reducible refine Kd.C_drewN ?_ _) | (with_reducible refine Kd.C_drew ?_)));(case side2 => exact (Kd.R_reads' HO_6.out).2.1);(case side3 => repeat (first | exact (Kd.R_reads' HO343.out).2.2 | (with_reducible refine Kd.C_alloc ?_ _) | (with_reducible refine Kd.C_drewN ?_ _) | (with_reducible refine Kd.C_drew ?_)));(case side4 => exact (Kd.R_reads' HO343.out).2.1);rintro e w' ⟨rfl,⟨nd,rfl⟩⟩;refine ⟨_,rfl,?_⟩))
          (try simp only [Act.put,List.setIfInBounds_toArray,List.set_cons_zero,List.set_cons_succ])
          have H:=HS30.out
          clear HS30
          by_cases c36 : t328 = true
          ·subst c36
           have H1 : (if t344 = true then ((span_Check.f kj11 t331).bind fun t345 => (if t345 = true then ((span_Both.f kj11 l0 t331).bind fun t346 => ((span_Size.f kj11 t346).bind fun t349 => ((span_Size.f kj11 t331).bind fun t350 => (some (t349 == t350))))) else (some false))) else (some false)) = some r:=by rw [if_pos rfl] at H;exact H
           clear H
           have H:=H1
           clear H1
           by_cases c37 : t344 = true
           ·subst c37
            have H1 : ((span_Check.f kj11 t331).bind fun t345 => (if t345 = true then ((span_Both.f kj11 l0 t331).bind fun t346 => ((span_Size.f kj11 t346).bind fun t349 => ((span_Size.f kj11 t331).bind fun t350 => (some (t349 == t350))))) else (some false))) = some r:=by rw [if_pos rfl] at H;exact H
            clear H
            have H:=H1
            clear H1
            replace H:=Option.bind_eq_some_iff.mp H
            obtain ⟨t345,A380,H⟩:=H
            replace H : (if t345 = true then ((span_Both.f kj11 l0 t331).bind fun t346 => ((span_Size.f kj11 t346).bind fun t349 => ((span_Size.f kj11 t331).bind fun t350 => (some (t349 == t350))))) else (some false)) = some r:=H
            have A38:=Aside0.mk A380
            clear A380
            by_cases c39 : t345 = true
            ·subst c39
             have H1 : ((span_Both.f kj11 l0 t331).bind fun t346 => ((span_Size.f kj11 t346).bind fun t349 => ((span_Size.f kj11 t331).bind fun t350 => (some (t349 == t350))))) = some r:=by rw [if_pos rfl] at H;exact H
             clear H
             have H:=H1
             clear H1
             replace H:=Option.bind_eq_some_iff.mp H
             obtain ⟨t346,A400,H⟩:=H
             replace H : ((span_Size.f kj11 t346).bind fun t349 => ((span_Size.f kj11 t331).bind fun t350 => (some (t349 == t350)))) = some r:=H
             have A40:=Aside0.mk A400
             clear A400
             replace H:=Option.bind_eq_some_iff.mp H
             obtain ⟨t349,A410,H⟩:=H
             replace H : ((span_Size.f kj11 t331).bind fun t350 => (some (t349 == t350))) = some r:=H
             have A41:=Aside0.mk A410
             clear A410
             replace H:=Option.bind_eq_some_iff.mp H
             obtain ⟨t350,A420,H⟩:=H
             replace H : (some (t349 == t350)) = some r:=H
             have A42:=Aside0.mk A420
             clear A420
             obtain rfl:=Option.some.inj H
             go_wp2_with (first | (go_at_call 12;(with_reducible refine (span_Check.calls kj11 _ _ t331 true _ ?side1 ?side2 A38.out).mono ?_);(case side1 => repeat (first | exact (Kd.R_reads' HO_6.out).2.2 | (with_reducible refine Kd.C_alloc ?_ _) | (with_reducible refine Kd.C_drewN ?_ _) | (with_reducible refine Kd.C_drew ?_)));(case side2 => exact (Kd.R_reads' HO_6.out).2.1);rintro e w43 ⟨rfl,hb⟩;have n0_:=Aside0.mk (Kd.R_below (by (with_reducible repeat (first | apply Kd.R_alloc | apply Kd.R_drewN | apply Kd.R_drew));exact HO_6.out) hb);have n1_:=Aside0.mk (Kd.R_below (by (with_reducible repeat (first | apply Kd.R_alloc | apply Kd.R_drewN | apply Kd.R_drew));exact HO343.out) hb);have n2_:=Aside0.mk (below_step (by repeat (first | (with_reducible first | exact HB.out | apply below_alloc | apply pw_below_drewN | apply below_drew1) | exact HB.out)) hb);clear HO_6;clear HO343;clear HB;have HO_6:=n0_;have HO343:=n1_;have HB:=n2_;clear n0_ n1_ n2_;(try clear hb);(try clear hb2);(try clear hk);(try clear hi)) | (go_at_call 21;(with_reducible refine (span_Both.calls kj11 (fun k_ => k_ < w.heap.size) _ _ l0 (fun k_ => some k_ = (.slice Ao14 t331.length co14 : Value).ownBlock) _ _ t331 t346 _ ?side1 ?side2 A40.out).mono ?_);(case side1 => exact Kd.V_mk HC0.out (Kd.F_below (Kd.C_F k25_heap HR0.out) (by repeat (first | (with_reducible first | exact HB.out | apply below_alloc | apply pw_below_drewN | apply below_drew1) | exact HB.out))));(case side2 => exact Kd.R_V (Kd.R_tight rfl (HO_6.out)));rintro e w44 ⟨v347,rfl,ho0,hb⟩;have n0_:=Aside0.mk (Kd.R_elder' (by (with_reducible repeat (first | apply Kd.R_alloc | apply Kd.R_drewN | apply Kd.R_drew));exact HO_6.out) (Kd.R_base ho0) hb);have n1_:=Aside0.mk (Kd.R_elder' (by (with_reducible repeat (first | apply Kd.R_alloc | apply Kd.R_drewN | apply Kd.R_drew));exact HO343.out) (Kd.R_base ho0) hb);have n2_:=Aside0.mk (Kd.R_lower (Kd.R_new' (Kd.R_new' (Kd.R_mono (ok':=fun k_ => True) ho0 (fun _ hk_ => trivial)) (Kd.R_lt (by (with_reducible repeat (first | apply Kd.R_alloc | apply Kd.R_drewN | apply Kd.R_drew));exact HO_6.out))) (Kd.R_lt (by (with_reducible repeat (first | apply Kd.R_alloc | apply Kd.R_drewN | apply Kd.R_drew));exact HO343.out))) (below_size (by repeat (first | (with_reducible first | exact HB.out | apply below_alloc | apply pw_below_drewN | apply below_drew1) | exact HB.out))));have n3_:=Aside0.mk (below_step (by repeat (first | (with_reducible first | exact HB.out | apply below_alloc | apply pw_below_drewN | apply below_drew1) | exact HB.out)) hb);clear HO_6;clear HO343;clear HB;have HO_6:=n0_;have HO343:=n1_;have HO348:=n2_;have HB:=n3_;clear n0_ n1_ n2_ n3_;(try clear hb);(try clear hb2);(try clear hk);(try clear hi);(try clear ho0);obtain ⟨Ao45,co45,eo45⟩:=Kd.R_slice HO348.out;subst eo45) | (go_at_call 25;(with_reducible refine (span_Size.calls kj11 _ _ t346 t349 _ ?side1 ?side2 A41.out).mono ?_);(case side1 => repeat (first | exact (Kd.R_reads' HO348.out).2.2 | (with_reducible refine Kd.C_alloc ?_ _) | (with_reducible refine Kd.C_drewN ?_ _) | (with_reducible refine Kd.C_drew ?_)));(case side2 => exact (Kd.R_reads' HO348.out).2.1);rintro e w46 ⟨rfl,hb⟩;have n0_:=Aside0.mk (Kd.R_below (by (with_reducible repeat (first | apply Kd.R_alloc | apply Kd.R_drewN | apply Kd.R_drew));exact HO_6.out) hb);have n1_:=Aside0.mk (Kd.R_below (by (with_reducible repeat (first | apply Kd.R_alloc | apply Kd.R_drewN | apply Kd.R_drew));exact HO343.out) hb);have n2_:=Aside0.mk (Kd.R_below (by (with_reducible repeat (first | apply Kd.R_alloc | apply Kd.R_drewN | apply Kd.R_drew));exact HO348.out) hb);have n3_:=Aside0.mk (below_step (by repeat (first | (with_reducible first | exact HB.out | apply below_alloc | apply pw_below_drewN | apply below_drew1) | exact HB.out)) hb);clear HO_6;clear HO343;clear HO348;clear HB;have HO_6:=n0_;have HO343:=n1_;have HO348:=n2_;have HB:=n3_;clear n0_ n1_ n2_ n3_;(try clear hb);(try clear hb2);(try clear hk);(try clear hi)) | (go_at_call 25;(with_reducible refine (span_Size.calls kj11 _ _ t331 t350 _ ?side1 ?side2 A42.out).mono ?_);(case side1 => repeat (first | exact (Kd.R_reads' HO_6.out).2.2 | (with_reducible refine Kd.C_alloc ?_ _) | (with_reducible refine Kd.C_drewN ?_ _) | (with_reducible refine Kd.C_drew ?_)));(case side2 => exact (Kd.R_reads' HO_6.out).2.1);rintro e w47 ⟨rfl,hb⟩;have n0_:=Aside0.mk (Kd.R_below (by (with_reducible repeat (first | apply Kd.R_alloc | apply Kd.R_drewN | apply Kd.R_drew));exact HO_6.out) hb);have n1_:=Aside0.mk (Kd.R_below (by (with_reducible repeat (first | apply Kd.R_alloc | apply Kd.R_drewN | apply Kd.R_drew));exact HO343.out) hb);have n2_:=Aside0.mk (Kd.R_below (by (with_reducible repeat (first | apply Kd.R_alloc | apply Kd.R_drewN | apply Kd.R_drew));exact HO348.out) hb);have n3_:=Aside0.mk (below_step (by repeat (first | (with_reducible first | exact HB.out | apply below_alloc | apply pw_below_drewN | apply below_drew1) | exact HB.out)) hb);clear HO_6;clear HO343;clear HO348;clear HB;have HO_6:=n0_;have HO343:=n1_;have HO348:=n2_;have HB:=n3_;clear n0_ n1_ n2_ n3_;(try clear hb);(try clear hb2);(try clear hk);(try clear hi)))
             go_ret
             exact ⟨by first | rfl | (simp [errW_none,errW_some] <;> rfl) | (simp only [← hji25];first | rfl | (simp [errW_none,errW_some] <;> rfl)) | (simp [*,errW_none,errW_some] <;> rfl),by repeat (first | (with_reducible first | exact HB.out | apply below_alloc | apply pw_below_drewN | apply below_drew1) | exact HB.out)⟩
            ·replace c39:=Bool.eq_false_iff.mpr c39
             subst c39
             have H1 : (some false) = some r:=by rw [if_neg (show ¬ (false = true) by decide)] at H;exact H
             clear H
             have H:=H1
             clear H1
             obtain rfl:=Option.some.inj H
             go_wp2_with (first | (go_at_call 12;(with_reducible refine (span_Check.calls kj11 _ _ t331 false _ ?side1 ?side2 A38.out).mono ?_);(case side1 => repeat (first | exact (Kd.R_reads' HO_6.out).2.2 | (with_reducible refine Kd.C_alloc ?_ _) | (with_reducible refine Kd.C_drewN ?_ _) | (with_reducible refine Kd.C_drew ?_)));(case side2 => exact (Kd.R_reads' HO_6.out).2.1);rintro e w48 ⟨rfl,hb⟩;have n0_:=Aside0.mk (Kd.R_below (by (with_reducible repeat (first | apply Kd.R_alloc | apply Kd.R_drewN | apply Kd.R_drew));exact HO_6.out) hb);have n1_:=Aside0.mk (Kd.R_below (by (with_reducible repeat (first | apply Kd.R_alloc | apply Kd.R_drewN | apply Kd.R_drew));exact HO343.out) hb);have n2_:=Aside0.mk (below_step (by repeat (first | (with_reducible first | exact HB.out | apply below_alloc | apply pw_below_drewN | apply below_drew1) | exact HB.out)) hb);clear HO_6;clear HO343;clear HB;have HO_6:=n0_;have HO343:=n1_;have HB:=n2_;clear n0_ n1_ n2_;(try clear hb);(try clear hb2);(try clear hk);(try clear hi)))
             go_ret
             exact ⟨by first | rfl | (simp [errW_none,errW_some] <;> rfl) | (simp only [← hji25];first | rfl | (simp [errW_none,errW_some] <;> rfl)) | (simp [*,errW_none,errW_some] <;> rfl),by repeat (first | (with_reducible first | exact HB.out | apply below_alloc | apply pw_below_drewN | apply below_drew1) | exact HB.out)⟩
           ·replace c37:=Bool.eq_false_iff.mpr c37
            subst c37
            have H1 : (some false) = some r:=by rw [if_neg (show ¬ (false = true) by decide)] at H;exact H
            clear H
            have H:=H1
            clear H1
            obtain rfl:=Option.some.inj H
            go_wp2
            go_ret
            exact ⟨by first | rfl | (simp [errW_none,errW_some] <;> rfl) | (simp only [← hji25];first | rfl | (simp [errW_none,errW_some] <;> rfl)) | (simp [*,errW_none,errW_some] <;> rfl),by repeat (first | (with_reducible first | exact HB.out | apply below_alloc | apply pw_below_drewN | apply below_drew1) | exact HB.out)⟩
          ·replace c36:=Bool.eq_false_iff.mpr c36
           subst c36
           have H1 : (some false) = some r:=by rw [if_neg (show ¬ (false = true) by decide)] at H;exact H
           clear H
           have H:=H1
           clear H1
           obtain rfl:=Option.some.inj H
           go_wp2
           go_ret
           exact ⟨by first | rfl | (simp [errW_none,errW_some] <;> rfl) | (simp only [← hji25];first | rfl | (simp [errW_none,errW_some] <;> rfl)) | (simp [*,errW_none,errW_some] <;> rfl),by repeat (first | (with_reducible first | exact HB.out | apply below_alloc | apply pw_below_drewN | apply below_drew1) | exact HB.out)⟩
         ·rw [if_neg c28] at H
          exact absurd H (by simp)
        ·rw [if_neg c27] at H
         exact absurd H (by simp)
       ·rw [if_neg c26] at H
        exact absurd H (by simp)

end Go.Proofs.Ytgaccappklhojaa.P
