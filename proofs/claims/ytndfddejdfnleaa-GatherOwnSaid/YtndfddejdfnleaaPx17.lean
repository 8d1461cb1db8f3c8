-- Printed for this claim by xprint.py of this session: contracts of this session's own stand in for what the print does not take
import Derived.Test.YtndfddejdfnleaaPx0
import Derived.Test.YtndfddejdfnleaaPx8
import Derived.Test.YtndfddejdfnleaaPx12
import Derived.Test.YtndfddejdfnleaaPx16
namespace Go.Proofs.Ytndfddejdfnleaa.P
open Go.RowKit Go.Proofs.YtndfddejdfnleaaW.PrintWords Go.Proofs.YtndfddejdfnleaaW.PrintLast Go.Proofs.YtndfddejdfnleaaW.PrintMore
attribute [local go_sem] max2_int min2_int max_two min_two max_three min_three max_four min_four   -- for this text's walks alone
set_option linter.unusedVariables false
set_option linter.unusedSimpArgs false

/-! ### wigwaglaw17_GatherOwn: function 6 -/
mutual
def wigwaglaw17_GatherOwn.l0 : Nat → List Int → Int → Bool → List Int → Int → Int → List (S41) → List Int → Bool → Int → Int → List (S41) → List Int → Bool → Int → Option (Bool)
 | 0,_,_,_,_,_,_,_,_,_,_,_,_,_,_,_ => none
 | k + 1,x0,x1,x5,x6,x11,x306000,x306001,x306002,x306003,x306004,x317000,x317001,x317002,x317003,x317004 => if x11 < (x317002.length : Int) then (if 0 ≤ x11 then (wigwaglaw17_GatherOwn.l0 k x0 x1 x5 x6 (wrap64 (x11 + 1)) x306000 x306001 x306002 x306003 x306004 x317000 x317001 (x317002.set (x11 : Int).toNat 99) x317003 x317004) else (none)) else (wigwaglaw17_GatherOwn.l1 k x0 x1 x5 x6 0 x306000 x306001 x306002 x306003 x306004 x317000 x317001 x317002 x317003 x317004)
def wigwaglaw17_GatherOwn.l1 : Nat → List Int → Int → Bool → List Int → Int → Int → List (S41) → List Int → Bool → Int → Int → List (S41) → List Int → Bool → Int → Option (Bool)
 | 0,_,_,_,_,_,_,_,_,_,_,_,_,_,_,_ => none
 | k + 1,x0,x1,x5,x6,x12,x306000,x306001,x306002,x306003,x306004,x317000,x317001,x317002,x317003,x317004 => if x12 < (x317001.length : Int) then (if 0 ≤ x12 then (wigwaglaw17_GatherOwn.l1 k x0 x1 x5 x6 (wrap64 (x12 + 1)) x306000 x306001 x306002 x306003 x306004 x317000 (x317001.set (x12 : Int).toNat (⟨99,(rd_T41 x317001 x12).f1⟩ : S41)) x317002 x317003 x317004) else (none)) else ((gather_Put.f k 0 ([] : List (S41)) ([] : List Int) false 0 (IntKind.u64.wrap (x1)) x6 false).bind fun bt319 => ((wigwagref17_Same.f k x306000 x306001 x306002 x306003 x306004 bt319.1 bt319.2.1 bt319.2.2.1 bt319.2.2.2.1 bt319.2.2.2.2.1).bind fun t330 => (if x5 = true then (if t330 = true then (some ((strOfNums x6).toList == (strOfNums x0).toList)) else (some false)) else (some false))))
end
def wigwaglaw17_GatherOwn.f (k : Nat) (l0 : List Int) (a1 : Int) : Option (Bool):=(wigwaglaw17_awake.f).bind fun t288 => (if (l0.length : Int) > 300 then (some t288) else ((some (([] : List Int) : List Int)).bind fun y289 => (if y289.length + l0.length < 140737488355328 then ((some (y289 ++ l0 : List Int)).bind fun y292 => ((gather_Put.f k 0 ([] : List (S41)) ([] : List Int) false 0 (IntKind.u64.wrap (a1)) y292 false).bind fun bt295 => ((gather_Put.f k bt295.1 bt295.2.1 bt295.2.2.1 bt295.2.2.2.1 bt295.2.2.2.2.1 0 y292 false).bind fun bt306 => (wigwaglaw17_GatherOwn.l0 k l0 a1 t288 y292 0 bt295.1 bt295.2.1 bt295.2.2.1 bt295.2.2.2.1 bt295.2.2.2.2.1 bt306.1 bt306.2.1 bt306.2.2.1 bt306.2.2.2.1 bt306.2.2.2.2.1)))) else (none))))
theorem wigwaglaw17_GatherOwn.mono_l : ∀ k,(∀ y0 y1 y2 y3 y4 y5 y6 y7 y8 y9 y10 y11 y12 y13 y14,LeO (wigwaglaw17_GatherOwn.l0 k y0 y1 y2 y3 y4 y5 y6 y7 y8 y9 y10 y11 y12 y13 y14) (wigwaglaw17_GatherOwn.l0 (k + 1) y0 y1 y2 y3 y4 y5 y6 y7 y8 y9 y10 y11 y12 y13 y14)) ∧ (∀ y0 y1 y2 y3 y4 y5 y6 y7 y8 y9 y10 y11 y12 y13 y14,LeO (wigwaglaw17_GatherOwn.l1 k y0 y1 y2 y3 y4 y5 y6 y7 y8 y9 y10 y11 y12 y13 y14) (wigwaglaw17_GatherOwn.l1 (k + 1) y0 y1 y2 y3 y4 y5 y6 y7 y8 y9 y10 y11 y12 y13 y14))
 | 0 => ⟨fun _ _ _ _ _ _ _ _ _ _ _ _ _ _ _ r h => by simp [wigwaglaw17_GatherOwn.l0] at h,fun _ _ _ _ _ _ _ _ _ _ _ _ _ _ _ r h => by simp [wigwaglaw17_GatherOwn.l1] at h⟩
 | k + 1 => by
  obtain ⟨ih0,ih1⟩:=wigwaglaw17_GatherOwn.mono_l k
  refine ⟨?_,?_⟩
  ·intro y0 y1 y2 y3 y4 y5 y6 y7 y8 y9 y10 y11 y12 y13 y14
   unfold wigwaglaw17_GatherOwn.l0
   repeat' first
   | (with_reducible exact ih0 _ _ _ _ _ _ _ _ _ _ _ _ _ _ _)
   | (with_reducible exact ih1 _ _ _ _ _ _ _ _ _ _ _ _ _ _ _)
   | (with_reducible exact gather_Put.mono _ _ _ _ _ _ _ _ _)
   | (with_reducible exact wigwagref17_Same.mono _ _ _ _ _ _ _ _ _ _ _)
   | (with_reducible exact LeO.refl _)
   | (with_reducible exact LeO.none _)
   | (with_reducible refine LeO.ite ?_ ?_)
   | (with_reducible refine LeO.bind ?_ (fun _ => ?_))
   | exact ih0 _ _ _ _ _ _ _ _ _ _ _ _ _ _ _
   | exact ih1 _ _ _ _ _ _ _ _ _ _ _ _ _ _ _
   | exact gather_Put.mono _ _ _ _ _ _ _ _ _
   | exact wigwagref17_Same.mono _ _ _ _ _ _ _ _ _ _ _
   | exact LeO.none _
   | refine LeO.ite ?_ ?_
   | refine LeO.bind ?_ (fun _ => ?_)
  ·intro y0 y1 y2 y3 y4 y5 y6 y7 y8 y9 y10 y11 y12 y13 y14
   unfold wigwaglaw17_GatherOwn.l1
   repeat' first
   | (with_reducible exact ih0 _ _ _ _ _ _ _ _ _ _ _ _ _ _ _)
   | (with_reducible exact ih1 _ _ _ _ _ _ _ _ _ _ _ _ _ _ _)
   | (with_reducible exact gather_Put.mono _ _ _ _ _ _ _ _ _)
   | (with_reducible exact wigwagref17_Same.mono _ _ _ _ _ _ _ _ _ _ _)
   | (with_reducible exact LeO.refl _)
   | (with_reducible exact LeO.none _)
   | (with_reducible refine LeO.ite ?_ ?_)
   | (with_reducible refine LeO.bind ?_ (fun _ => ?_))
   | exact ih0 _ _ _ _ _ _ _ _ _ _ _ _ _ _ _
   | exact ih1 _ _ _ _ _ _ _ _ _ _ _ _ _ _ _
   | exact gather_Put.mono _ _ _ _ _ _ _ _ _
   | exact wigwagref17_Same.mono _ _ _ _ _ _ _ _ _ _ _
   | exact LeO.none _
   | refine LeO.ite ?_ ?_
   | refine LeO.bind ?_ (fun _ => ?_)
theorem wigwaglaw17_GatherOwn.mono : ∀ a0 a1 k,LeO (wigwaglaw17_GatherOwn.f k a0 a1) (wigwaglaw17_GatherOwn.f (k + 1) a0 a1):=by
 intro a0 a1 k
 obtain ⟨ih0,ih1⟩:=wigwaglaw17_GatherOwn.mono_l k
 unfold wigwaglaw17_GatherOwn.f
 repeat' first
   | (with_reducible exact ih0 _ _ _ _ _ _ _ _ _ _ _ _ _ _ _)
   | (with_reducible exact ih1 _ _ _ _ _ _ _ _ _ _ _ _ _ _ _)
   | (with_reducible exact gather_Put.mono _ _ _ _ _ _ _ _ _)
   | (with_reducible exact wigwagref17_Same.mono _ _ _ _ _ _ _ _ _ _ _)
   | (with_reducible exact LeO.refl _)
   | (with_reducible exact LeO.none _)
   | (with_reducible refine LeO.ite ?_ ?_)
   | (with_reducible refine LeO.bind ?_ (fun _ => ?_))
   | exact ih0 _ _ _ _ _ _ _ _ _ _ _ _ _ _ _
   | exact ih1 _ _ _ _ _ _ _ _ _ _ _ _ _ _ _
   | exact gather_Put.mono _ _ _ _ _ _ _ _ _
   | exact wigwagref17_Same.mono _ _ _ _ _ _ _ _ _ _ _
   | exact LeO.none _
   | refine LeO.ite ?_ ?_
   | refine LeO.bind ?_ (fun _ => ?_)
set_option maxHeartbeats 8000000 in
set_option maxRecDepth 100000 in
theorem wigwaglaw17_GatherOwn.calls (k : Nat) (A0 : Option Addr) (c0 : Nat) (l0 : List Int) (a1 : Int) (r : Bool) (w : World) (hr0 : Kd.C (Kd.int .u8) w A0 l0.length l0) (hc0 : l0.length ≤ c0) (h : wigwaglaw17_GatherOwn.f k l0 a1 = some r) :
  Calls Try.prog 6 #[.slice A0 l0.length c0,.int .u16 a1] w fun e w' => e = .returned (.bool r) ∧ Below w.heap.size w w':=by
 have hu28:=Try.underlying28
 have HR0:=Aside0.mk hr0
 have HC0:=Aside0.mk hc0
 clear hr0 hc0
 have HB:=Aside0.mk (Below.refl w.heap.size w)
 have H : ((wigwaglaw17_awake.f).bind fun t288 => (if (l0.length : Int) > 300 then (some t288) else ((some (([] : List Int) : List Int)).bind fun y289 => (if y289.length + l0.length < 140737488355328 then ((some (y289 ++ l0 : List Int)).bind fun y292 => ((gather_Put.f k 0 ([] : List (S41)) ([] : List Int) false 0 (IntKind.u64.wrap (a1)) y292 false).bind fun bt295 => ((gather_Put.f k bt295.1 bt295.2.1 bt295.2.2.1 bt295.2.2.2.1 bt295.2.2.2.2.1 0 y292 false).bind fun bt306 => (wigwaglaw17_GatherOwn.l0 k l0 a1 t288 y292 0 bt295.1 bt295.2.1 bt295.2.2.1 bt295.2.2.2.1 bt295.2.2.2.2.1 bt306.1 bt306.2.1 bt306.2.2.1 bt306.2.2.2.1 bt306.2.2.2.2.1)))) else (none))))) = some r:=h
 clear h
 replace H:=Option.bind_eq_some_iff.mp H
 obtain ⟨t288,A30,H⟩:=H
 replace H : (if (l0.length : Int) > 300 then (some t288) else ((some (([] : List Int) : List Int)).bind fun y289 => (if y289.length + l0.length < 140737488355328 then ((some (y289 ++ l0 : List Int)).bind fun y292 => ((gather_Put.f k 0 ([] : List (S41)) ([] : List Int) false 0 (IntKind.u64.wrap (a1)) y292 false).bind fun bt295 => ((gather_Put.f k bt295.1 bt295.2.1 bt295.2.2.1 bt295.2.2.2.1 bt295.2.2.2.2.1 0 y292 false).bind fun bt306 => (wigwaglaw17_GatherOwn.l0 k l0 a1 t288 y292 0 bt295.1 bt295.2.1 bt295.2.2.1 bt295.2.2.2.1 bt295.2.2.2.2.1 bt306.1 bt306.2.1 bt306.2.2.1 bt306.2.2.2.1 bt306.2.2.2.2.1)))) else (none)))) = some r:=H
 have A3:=Aside0.mk A30
 clear A30
 by_cases c4 : (l0.length : Int) > 300
 ·rw [if_pos c4] at H
  have c4b0 : decide (300 < (l0.length : Int)) = true:=decide_eq_true c4
  have c4b1 : decide (300 < l0.length) = true:=decide_eq_true (by omega)
  clear c4
  obtain rfl:=Option.some.inj H
  go_enter Try.func6,Try.ntmps6
  go_wp2_with (first | ((with_reducible refine gate_callee (f:=9) rfl ?_);refine goesL_ (some 16) rfl rfl Try.func9 (by kernel_rfl) rfl #[] rfl (by (try simp only [List.map_toArray,List.map_cons,List.map_nil]);first | done | rfl | (simp only [List.length_drop,List.length_take];rfl)) ?_;(with_reducible refine (wigwaglaw17_awake.calls  t288 _ A3.out).mono ?_);rintro e w5 ⟨rfl,hb⟩;refine ⟨_,rfl,?_⟩;have n0_:=Aside0.mk (below_step (by repeat (first | (with_reducible first | exact HB.out | apply below_alloc | apply pw_below_drewN | apply below_drew1) | exact HB.out)) hb);clear HB;have HB:=n0_;clear n0_;(try clear hb);(try clear hb2);(try clear hk);(try clear hi)))
  go_ret
  exact ⟨by first | rfl | (simp [errW_none,errW_some] <;> rfl) | (simp [*,errW_none,errW_some] <;> rfl),by repeat (first | (with_reducible first | exact HB.out | apply below_alloc | apply pw_below_drewN | apply below_drew1) | exact HB.out)⟩
 ·rw [if_neg c4] at H
  have c4b0 : decide (300 < (l0.length : Int)) = false:=decide_eq_false c4
  have c4b1 : decide (300 < l0.length) = false:=decide_eq_false (by omega)
  clear c4
  obtain ⟨y289,hy289⟩ : ∃ y_ : List Int,y_ = (([] : List Int)):=⟨_,rfl⟩
  replace H : (if y289.length + l0.length < 140737488355328 then ((some (y289 ++ l0 : List Int)).bind fun y292 => ((gather_Put.f k 0 ([] : List (S41)) ([] : List Int) false 0 (IntKind.u64.wrap (a1)) y292 false).bind fun bt295 => ((gather_Put.f k bt295.1 bt295.2.1 bt295.2.2.1 bt295.2.2.2.1 bt295.2.2.2.2.1 0 y292 false).bind fun bt306 => (wigwaglaw17_GatherOwn.l0 k l0 a1 t288 y292 0 bt295.1 bt295.2.1 bt295.2.2.1 bt295.2.2.2.1 bt295.2.2.2.2.1 bt306.1 bt306.2.1 bt306.2.2.1 bt306.2.2.2.1 bt306.2.2.2.2.1)))) else (none)) = some r:=by first | (rw [hy289];with_reducible exact H) | (have H2_:=(Option.bind_some _ _).symm.trans H;rw [hy289];with_reducible exact H2_) | (have H2_:=(Option.bind_some _ _).symm.trans H;with_reducible exact H2_) | with_reducible exact H | (rw [hy289];exact H) | exact H
  have Ny289:=Aside0.mk hy289
  clear hy289
  by_cases c6 : y289.length + l0.length < 140737488355328
  ·rw [if_pos c6] at H
   have LMc6:=Aside0.mk c6
   clear c6
   obtain ⟨y292,hy292⟩ : ∃ y_ : List Int,y_ = (y289 ++ l0):=⟨_,rfl⟩
   replace H : ((gather_Put.f k 0 ([] : List (S41)) ([] : List Int) false 0 (IntKind.u64.wrap (a1)) y292 false).bind fun bt295 => ((gather_Put.f k bt295.1 bt295.2.1 bt295.2.2.1 bt295.2.2.2.1 bt295.2.2.2.2.1 0 y292 false).bind fun bt306 => (wigwaglaw17_GatherOwn.l0 k l0 a1 t288 y292 0 bt295.1 bt295.2.1 bt295.2.2.1 bt295.2.2.2.1 bt295.2.2.2.2.1 bt306.1 bt306.2.1 bt306.2.2.1 bt306.2.2.2.1 bt306.2.2.2.2.1))) = some r:=by first | (rw [hy292];with_reducible exact H) | (have H2_:=(Option.bind_some _ _).symm.trans H;rw [hy292];with_reducible exact H2_) | (have H2_:=(Option.bind_some _ _).symm.trans H;with_reducible exact H2_) | with_reducible exact H | (rw [hy292];exact H) | exact H
   have Ny292:=Aside0.mk hy292
   clear hy292
   replace H:=Option.bind_eq_some_iff.mp H
   obtain ⟨⟨t295,t296,t299,t302,t303,t304⟩,A70,H⟩:=H
   replace H : ((gather_Put.f k t295 t296 t299 t302 t303 0 y292 false).bind fun bt306 => (wigwaglaw17_GatherOwn.l0 k l0 a1 t288 y292 0 t295 t296 t299 t302 t303 bt306.1 bt306.2.1 bt306.2.2.1 bt306.2.2.2.1 bt306.2.2.2.2.1)) = some r:=H
   have A7:=Aside0.mk A70
   clear A70
   replace H:=Option.bind_eq_some_iff.mp H
   obtain ⟨⟨t306,t307,t310,t313,t314,t315⟩,A80,H⟩:=H
   replace H : (wigwaglaw17_GatherOwn.l0 k l0 a1 t288 y292 0 t295 t296 t299 t302 t303 t306 t307 t310 t313 t314) = some r:=H
   have A8:=Aside0.mk A80
   clear A80
   have H':=Aside0.mk H
   clear H
   go_enter Try.func6,Try.ntmps6
   go_wp2_with (first | ((with_reducible refine gate_callee (f:=9) rfl ?_);refine goesL_ (some 16) rfl rfl Try.func9 (by kernel_rfl) rfl #[] rfl (by (try simp only [List.map_toArray,List.map_cons,List.map_nil]);first | done | rfl | (simp only [List.length_drop,List.length_take];rfl)) ?_;(with_reducible refine (wigwaglaw17_awake.calls  t288 _ A3.out).mono ?_);rintro e w9 ⟨rfl,hb⟩;refine ⟨_,rfl,?_⟩;have n0_:=Aside0.mk (below_step (by repeat (first | (with_reducible first | exact HB.out | apply below_alloc | apply pw_below_drewN | apply below_drew1) | exact HB.out)) hb);clear HB;have HB:=n0_;clear n0_;(try clear hb);(try clear hb2);(try clear hk);(try clear hi)) | ((with_reducible refine gate_dst (N:=21) rfl ?_);refine Kd.R_lit (Kd.int .u8) _ 5 ?hg (N:=21) ?hd (xs:=([] : List Int)) (inner:=[]) (ok:=fun _ => True) (okp:=fun _ => True) ?hr ?hp (fun _ hk => hk) trivial (Below.refl _ _) (Nat.le_refl _) (by simp) ?_;(case hd => rfl);(case hg => rfl);(case hr => first | (go_simp;done) | (go_simp;rfl));(case hp => exact (Reps.none _ _));intro v290 w10 ho11 hb hg_ hnew_;clear hg_ hnew_;(first | rw [← Ny289.out] at ho11 | (simp only [Int.reduceToNat] at ho11;rw [← Ny289.out] at ho11));have n0_:=Aside0.mk (Kd.R_lower ho11 (below_size (by repeat (first | (with_reducible first | exact HB.out | apply below_alloc | apply pw_below_drewN | apply below_drew1) | exact HB.out))));have n1_:=Aside0.mk (below_step (by repeat (first | (with_reducible first | exact HB.out | apply below_alloc | apply pw_below_drewN | apply below_drew1) | exact HB.out)) hb);clear HB;have HO291:=n0_;have HB:=n1_;clear n0_ n1_;clear hb ho11) | ((with_reducible refine gate_builtin (b:=.append) (xs:=#[.tmp 21,.tmp 22]) rfl ?_);at_builtin;refine Kd.R_append_rows (Kd.int .u8) (w0:=w) w.heap.size rfl (.tmp 21) (.tmp 22) 23 5 (.int .u8 0) 1 rfl Try.underlying23 info5 rfl (by decide) (by omega) v290 y289 l0 _ _ _ (fun _ => True) (fun _ => False) rfl rfl ?aO ?aR (fun _ _ h => h) (fun _ h => h.elim) ?aF ?aB ?aS ?aL ?_;(case aR => repeat (first | exact (Kd.C_below HR0.out HB.out) | (with_reducible refine Kd.C_alloc ?_ _) | (with_reducible refine Kd.C_drewN ?_ _) | (with_reducible refine Kd.C_drew ?_)));(case aB => exact (by repeat (first | (with_reducible first | exact HB.out | apply below_alloc | apply pw_below_drewN | apply below_drew1) | exact HB.out)));(case aF => exact (fun _ _ => trivial));(case aO => exact (by (with_reducible repeat (first | apply Kd.R_alloc | apply Kd.R_drewN | apply Kd.R_drew));exact HO291.out));(case aS => exact (below_size (by repeat (first | (with_reducible first | exact HB.out | apply below_alloc | apply pw_below_drewN | apply below_drew1) | exact HB.out))));(case aL => have:=LMc6.out;omega);intro v293 w12 ho hb hg hat;rw [← Ny292.out] at ho;have n0_:=Aside0.mk (hb);have n1_:=Aside0.mk (ho);clear HB;clear HO291;have HB:=n0_;have HO294:=n1_;clear n0_ n1_;clear ho hb hg hat;obtain ⟨Ao13,co13,eo13⟩:=Kd.R_slice HO294.out;subst eo13) | ((with_reducible refine gate_callee (f:=10) rfl ?_);refine goesL_ (some 29) rfl rfl Try.func10 (by kernel_rfl) rfl #[.agg #[.int .u64 0,.slice none 0 0,.slice none 0 0,.bool false,.int .u64 0],.int .u64 (IntKind.u64.wrap (a1)),.slice Ao13 y292.length co13,.bool false] rfl (by (try simp only [List.map_toArray,List.map_cons,List.map_nil]);first | done | rfl | (simp only [List.length_drop,List.length_take];rfl)) ?_;(refine (gather_Put.calls k 0 _ _ ([] : List (S41)) _ _ ([] : List Int) false 0 (IntKind.u64.wrap (a1)) _ _ y292 false t295 t296 t299 t302 t303 t304 _ ?side1 ?side2 ?side3 ?side4 ?side5 ?side6 A7.out).mono ?_);(case side1 => exact Kd.C_nil _ _);(case side2 => exact Nat.le_refl _);(case side3 => exact Kd.C_nil _ _);(case side4 => exact Nat.le_refl _);(case side5 => repeat (first | exact (Kd.R_reads' HO294.out).2.2 | (with_reducible refine Kd.C_alloc ?_ _) | (with_reducible refine Kd.C_drewN ?_ _) | (with_reducible refine Kd.C_drew ?_)));(case side6 => exact (Kd.R_reads' HO294.out).2.1);rintro e w14 ⟨v297,v300,rfl,ho0,ho1,hb⟩;refine ⟨_,rfl,?_⟩;have n0_:=Aside0.mk (Kd.R_elder' (by (with_reducible repeat (first | apply Kd.R_alloc | apply Kd.R_drewN | apply Kd.R_drew));exact HO294.out) (Kd.R_base ho1) hb);have n1_:=Aside0.mk (Kd.R_lower ho0 (below_size (by repeat (first | (with_reducible first | exact HB.out | apply below_alloc | apply pw_below_drewN | apply below_drew1) | exact HB.out))));have n2_:=Aside0.mk (Kd.R_lower (Kd.R_new' ho1 (Kd.R_lt (by (with_reducible repeat (first | apply Kd.R_alloc | apply Kd.R_drewN | apply Kd.R_drew));exact HO294.out))) (below_size (by repeat (first | (with_reducible first | exact HB.out | apply below_alloc | apply pw_below_drewN | apply below_drew1) | exact HB.out))));have n3_:=Aside0.mk (below_step (by repeat (first | (with_reducible first | exact HB.out | apply below_alloc | apply pw_below_drewN | apply below_drew1) | exact HB.out)) hb);clear HO294;clear HB;have HO294:=n0_;have HO298:=n1_;have HO301:=n2_;have HB:=n3_;clear n0_ n1_ n2_ n3_;(try clear hb);(try clear hb2);(try clear hk);(try clear hi);(try clear ho0);(try clear ho1)) | ((with_reducible refine gate_dst (N:=7) rfl ?_);refine box_event ?hg (N:=7) ?hd (cs:=#[.int .u64 0,.slice none 0 0,.slice none 0 0,.bool false,.int .u64 0]) (t:=28) ?hr ?_;(case hd => rfl);(case hg => rfl);(case hr => first | (go_simp;done) | (go_simp;rfl));intro gb305 hg w15 hbox hb;have n0_:=Aside0.mk (Kd.R_below (by (with_reducible repeat (first | apply Kd.R_alloc | apply Kd.R_drewN | apply Kd.R_drew));exact HO294.out) hb);have n1_:=Aside0.mk (Kd.R_below (by (with_reducible repeat (first | apply Kd.R_alloc | apply Kd.R_drewN | apply Kd.R_drew));exact HO298.out) hb);have n2_:=Aside0.mk (Kd.R_below (by (with_reducible repeat (first | apply Kd.R_alloc | apply Kd.R_drewN | apply Kd.R_drew));exact HO301.out) hb);have n3_:=Aside0.mk (below_step (by repeat (first | (with_reducible first | exact HB.out | apply below_alloc | apply pw_below_drewN | apply below_drew1) | exact HB.out)) hb);have n4_:=Aside0.mk (hbox);have n5_:=Aside0.mk ((by rw [hg];exact (below_size (by repeat (first | (with_reducible first | exact HB.out | apply below_alloc | apply pw_below_drewN | apply below_drew1) | exact HB.out))) : w.heap.size ≤ gb305));have n6_:=Aside0.mk ((by rw [hg];exact (below_size (by repeat (first | (with_reducible first | exact HB.out | apply below_alloc | apply pw_below_drewN | apply below_drew1) | exact HB.out))) : w.heap.size ≤ gb305));clear HO294;clear HO298;clear HO301;clear HB;have HO294:=n0_;have HO298:=n1_;have HO301:=n2_;have HB:=n3_;have BK305:=n4_;have GW305:=n5_;have GE305:=n6_;clear n0_ n1_ n2_ n3_ n4_ n5_ n6_;clear hb hbox hg;have hcz16_0 : w15.cell? ⟨gb305,0,none⟩ = some (.int .u64 0):=(blk_cell BK305.out 0).trans rfl;have hcz16_1 : w15.cell? ⟨gb305,1,none⟩ = some (.slice none 0 0):=(blk_cell BK305.out 1).trans rfl;have hcz16_2 : w15.cell? ⟨gb305,2,none⟩ = some (.slice none 0 0):=(blk_cell BK305.out 2).trans rfl;have hcz16_3 : w15.cell? ⟨gb305,3,none⟩ = some (.bool false):=(blk_cell BK305.out 3).trans rfl;have hcz16_4 : w15.cell? ⟨gb305,4,none⟩ = some (.int .u64 0):=(blk_cell BK305.out 4).trans rfl;have hfz16_0:=blk_frozen BK305.out 0;have hfz16_1:=blk_frozen BK305.out 1;have hfz16_2:=blk_frozen BK305.out 2;have hfz16_3:=blk_frozen BK305.out 3;have hfz16_4:=blk_frozen BK305.out 4;obtain ⟨Ao17,co17,eo17⟩:=Kd.R_slice HO298.out;subst eo17;obtain ⟨Ao18,co18,eo18⟩:=Kd.R_slice HO301.out;subst eo18) | ((with_reducible refine gate_callee (f:=10) rfl ?_);refine goesL_ (some 35) rfl rfl Try.func10 (by kernel_rfl) rfl #[.agg #[.int .u64 t295,.slice Ao17 t296.length co17,.slice Ao18 t299.length co18,.bool t302,.int .u64 t303],.int .u64 0,.slice Ao13 y292.length co13,.bool false] rfl (by (try simp only [List.map_toArray,List.map_cons,List.map_nil]);first | done | rfl | (simp only [List.length_drop,List.length_take];rfl)) ?_;(with_reducible refine (gather_Put.calls k t295 _ _ t296 _ _ t299 t302 t303 0 _ _ y292 false t306 t307 t310 t313 t314 t315 _ ?side1 ?side2 ?side3 ?side4 ?side5 ?side6 A8.out).mono ?_);(case side1 => refine (Kd.R_reads' (e:=41) (base:=w.heap.size) (ok:=fun k_ => True) (n:=t296.length) (c:=co17) ?_).2.2;exact (by (with_reducible repeat (first | apply Kd.R_alloc | apply Kd.R_drewN | apply Kd.R_drew));exact (Kd.R_mono (Kd.R_far (p:=⟨gb305,4,none⟩) (Kd.R_far (p:=⟨gb305,3,none⟩) (Kd.R_far (p:=⟨gb305,2,none⟩) (Kd.R_far (p:=⟨gb305,1,none⟩) (Kd.R_far (p:=⟨gb305,0,none⟩) (Kd.R_types HO298.out BK305.out (by decide)) (fun _ hk => hk.2) (.int .u64 t295)) (fun _ hk => hk.2) (.slice Ao17 t296.length co17)) (fun _ hk => hk.2) (.slice Ao18 t299.length co18)) (fun _ hk => hk.2) (.bool t302)) (fun _ hk => hk.2) (.int .u64 t303)) (fun _ h_ => h_.1))));(case side2 => exact (Kd.R_reads' HO298.out).2.1);(case side3 => refine (Kd.R_reads' (e:=5) (base:=w.heap.size) (ok:=fun k_ => (True ∧ some k_ ≠ (.slice Ao13 y292.length co13 : Value).ownBlock)) (n:=t299.length) (c:=co18) ?_).2.2;exact (by (with_reducible repeat (first | apply Kd.R_alloc | apply Kd.R_drewN | apply Kd.R_drew));exact (Kd.R_mono (Kd.R_far (p:=⟨gb305,4,none⟩) (Kd.R_far (p:=⟨gb305,3,none⟩) (Kd.R_far (p:=⟨gb305,2,none⟩) (Kd.R_far (p:=⟨gb305,1,none⟩) (Kd.R_far (p:=⟨gb305,0,none⟩) (Kd.R_types HO301.out BK305.out (by decide)) (fun _ hk => hk.2) (.int .u64 t295)) (fun _ hk => hk.2) (.slice Ao17 t296.length co17)) (fun _ hk => hk.2) (.slice Ao18 t299.length co18)) (fun _ hk => hk.2) (.bool t302)) (fun _ hk => hk.2) (.int .u64 t303)) (fun _ h_ => h_.1))));(case side4 => exact (Kd.R_reads' HO301.out).2.1);(case side5 => refine (Kd.R_reads' (e:=5) (base:=w.heap.size) (ok:=fun k_ => (True ∧ some k_ ≠ (.slice Ao18 t299.length co18 : Value).ownBlock)) (n:=y292.length) (c:=co13) ?_).2.2;exact (by (with_reducible repeat (first | apply Kd.R_alloc | apply Kd.R_drewN | apply Kd.R_drew));exact (Kd.R_mono (Kd.R_far (p:=⟨gb305,4,none⟩) (Kd.R_far (p:=⟨gb305,3,none⟩) (Kd.R_far (p:=⟨gb305,2,none⟩) (Kd.R_far (p:=⟨gb305,1,none⟩) (Kd.R_far (p:=⟨gb305,0,none⟩) (Kd.R_types HO294.out BK305.out (by decide)) (fun _ hk => hk.2) (.int .u64 t295)) (fun _ hk => hk.2) (.slice Ao17 t296.length co17)) (fun _ hk => hk.2) (.slice Ao18 t299.length co18)) (fun _ hk => hk.2) (.bool t302)) (fun _ hk => hk.2) (.int .u64 t303)) (fun _ h_ => h_.1))));(case side6 => exact (Kd.R_reads' HO294.out).2.1);rintro e w19 ⟨v308,v311,rfl,ho0,ho1,hb⟩;refine ⟨_,rfl,?_⟩;have n0_:=Aside0.mk (Kd.R_elder' (by (with_reducible repeat (first | apply Kd.R_alloc | apply Kd.R_drewN | apply Kd.R_drew));exact (Kd.R_mono (Kd.R_far (p:=⟨gb305,4,none⟩) (Kd.R_far (p:=⟨gb305,3,none⟩) (Kd.R_far (p:=⟨gb305,2,none⟩) (Kd.R_far (p:=⟨gb305,1,none⟩) (Kd.R_far (p:=⟨gb305,0,none⟩) (Kd.R_types HO294.out BK305.out (by decide)) (fun _ hk => hk.2) (.int .u64 t295)) (fun _ hk => hk.2) (.slice Ao17 t296.length co17)) (fun _ hk => hk.2) (.slice Ao18 t299.length co18)) (fun _ hk => hk.2) (.bool t302)) (fun _ hk => hk.2) (.int .u64 t303)) (fun _ h_ => h_.1))) (Kd.R_base ho1) hb);have n1_:=Aside0.mk (Kd.R_elder' (by (with_reducible repeat (first | apply Kd.R_alloc | apply Kd.R_drewN | apply Kd.R_drew));exact (Kd.R_mono (Kd.R_far (p:=⟨gb305,4,none⟩) (Kd.R_far (p:=⟨gb305,3,none⟩) (Kd.R_far (p:=⟨gb305,2,none⟩) (Kd.R_far (p:=⟨gb305,1,none⟩) (Kd.R_far (p:=⟨gb305,0,none⟩) (Kd.R_types HO298.out BK305.out (by decide)) (fun _ hk => hk.2) (.int .u64 t295)) (fun _ hk => hk.2) (.slice Ao17 t296.length co17)) (fun _ hk => hk.2) (.slice Ao18 t299.length co18)) (fun _ hk => hk.2) (.bool t302)) (fun _ hk => hk.2) (.int .u64 t303)) (fun _ h_ => h_.1))) (Kd.R_base ho0) hb);have n2_:=Aside0.mk (Kd.R_elder' (by (with_reducible repeat (first | apply Kd.R_alloc | apply Kd.R_drewN | apply Kd.R_drew));exact (Kd.R_mono (Kd.R_far (p:=⟨gb305,4,none⟩) (Kd.R_far (p:=⟨gb305,3,none⟩) (Kd.R_far (p:=⟨gb305,2,none⟩) (Kd.R_far (p:=⟨gb305,1,none⟩) (Kd.R_far (p:=⟨gb305,0,none⟩) (Kd.R_types HO301.out BK305.out (by decide)) (fun _ hk => hk.2) (.int .u64 t295)) (fun _ hk => hk.2) (.slice Ao17 t296.length co17)) (fun _ hk => hk.2) (.slice Ao18 t299.length co18)) (fun _ hk => hk.2) (.bool t302)) (fun _ hk => hk.2) (.int .u64 t303)) (fun _ h_ => h_.1))) (Kd.R_base ho1) hb);have n3_:=Aside0.mk (Kd.R_lower (Kd.R_new' ho0 (Kd.R_lt (by (with_reducible repeat (first | apply Kd.R_alloc | apply Kd.R_drewN | apply Kd.R_drew));exact (Kd.R_mono (Kd.R_far (p:=⟨gb305,4,none⟩) (Kd.R_far (p:=⟨gb305,3,none⟩) (Kd.R_far (p:=⟨gb305,2,none⟩) (Kd.R_far (p:=⟨gb305,1,none⟩) (Kd.R_far (p:=⟨gb305,0,none⟩) (Kd.R_types HO298.out BK305.out (by decide)) (fun _ hk => hk.2) (.int .u64 t295)) (fun _ hk => hk.2) (.slice Ao17 t296.length co17)) (fun _ hk => hk.2) (.slice Ao18 t299.length co18)) (fun _ hk => hk.2) (.bool t302)) (fun _ hk => hk.2) (.int .u64 t303)) (fun _ h_ => h_.1))))) (below_size (by repeat (first | (with_reducible first | exact HB.out | apply below_alloc | apply pw_below_drewN | apply below_drew1 | refine below_set ?_ GE305.out) | exact HB.out))));have n4_:=Aside0.mk (Kd.R_lower (Kd.R_new' (Kd.R_new' ho1 (Kd.R_lt (by (with_reducible repeat (first | apply Kd.R_alloc | apply Kd.R_drewN | apply Kd.R_drew));exact (Kd.R_mono (Kd.R_far (p:=⟨gb305,4,none⟩) (Kd.R_far (p:=⟨gb305,3,none⟩) (Kd.R_far (p:=⟨gb305,2,none⟩) (Kd.R_far (p:=⟨gb305,1,none⟩) (Kd.R_far (p:=⟨gb305,0,none⟩) (Kd.R_types HO294.out BK305.out (by decide)) (fun _ hk => hk.2) (.int .u64 t295)) (fun _ hk => hk.2) (.slice Ao17 t296.length co17)) (fun _ hk => hk.2) (.slice Ao18 t299.length co18)) (fun _ hk => hk.2) (.bool t302)) (fun _ hk => hk.2) (.int .u64 t303)) (fun _ h_ => h_.1))))) (Kd.R_lt (by (with_reducible repeat (first | apply Kd.R_alloc | apply Kd.R_drewN | apply Kd.R_drew));exact (Kd.R_mono (Kd.R_far (p:=⟨gb305,4,none⟩) (Kd.R_far (p:=⟨gb305,3,none⟩) (Kd.R_far (p:=⟨gb305,2,none⟩) (Kd.R_far (p:=⟨gb305,1,none⟩) (Kd.R_far (p:=⟨gb305,0,none⟩) (Kd.R_types HO301.out BK305.out (by decide)) (fun _ hk => hk.2) (.int .u64 t295)) (fun _ hk => hk.2) (.slice Ao17 t296.length co17)) (fun _ hk => hk.2) (.slice Ao18 t299.length co18)) (fun _ hk => hk.2) (.bool t302)) (fun _ hk => hk.2) (.int .u64 t303)) (fun _ h_ => h_.1))))) (below_size (by repeat (first | (with_reducible first | exact HB.out | apply below_alloc | apply pw_below_drewN | apply below_drew1 | refine below_set ?_ GE305.out) | exact HB.out))));have n5_:=Aside0.mk (blk_below (g:=gb305) (o:=.cells #[.int .u64 t295,.slice Ao17 t296.length co17,.slice Ao18 t299.length co18,.bool t302,.int .u64 t303] 28 (0,0)) (by (with_reducible repeat (first | refine blk_drewN ?_ _ | refine blk_drew ?_ | refine blk_alloc ?_ _));refine blk_put (cs:=#[.int .u64 t295,.slice Ao17 t296.length co17,.slice Ao18 t299.length co18,.bool t302,.int .u64 0]) ?_ 4 _ rfl;(with_reducible repeat (first | refine blk_drewN ?_ _ | refine blk_drew ?_ | refine blk_alloc ?_ _));refine blk_put (cs:=#[.int .u64 t295,.slice Ao17 t296.length co17,.slice Ao18 t299.length co18,.bool false,.int .u64 0]) ?_ 3 _ rfl;(with_reducible repeat (first | refine blk_drewN ?_ _ | refine blk_drew ?_ | refine blk_alloc ?_ _));refine blk_put (cs:=#[.int .u64 t295,.slice Ao17 t296.length co17,.slice none 0 0,.bool false,.int .u64 0]) ?_ 2 _ rfl;(with_reducible repeat (first | refine blk_drewN ?_ _ | refine blk_drew ?_ | refine blk_alloc ?_ _));refine blk_put (cs:=#[.int .u64 t295,.slice none 0 0,.slice none 0 0,.bool false,.int .u64 0]) ?_ 1 _ rfl;(with_reducible repeat (first | refine blk_drewN ?_ _ | refine blk_drew ?_ | refine blk_alloc ?_ _));refine blk_put (cs:=#[.int .u64 0,.slice none 0 0,.slice none 0 0,.bool false,.int .u64 0]) ?_ 0 _ rfl;(with_reducible repeat (first | refine blk_drewN ?_ _ | refine blk_drew ?_ | refine blk_alloc ?_ _));exact BK305.out) hb);have n6_:=Aside0.mk (below_step (by repeat (first | (with_reducible first | exact HB.out | apply below_alloc | apply pw_below_drewN | apply below_drew1 | refine below_set ?_ GE305.out) | exact HB.out)) hb);clear HO294;clear HO298;clear HO301;clear BK305;clear HB;have HO294:=n0_;have HO298:=n1_;have HO301:=n2_;have HO309:=n3_;have HO312:=n4_;have BK305:=n5_;have HB:=n6_;clear n0_ n1_ n2_ n3_ n4_ n5_ n6_;(try clear hb);(try clear hb2);(try clear hk);(try clear hi);(try clear ho0);(try clear ho1)) | ((with_reducible refine gate_dst (N:=9) rfl ?_);refine box_event ?hg (N:=9) ?hd (cs:=#[.int .u64 0,.slice none 0 0,.slice none 0 0,.bool false,.int .u64 0]) (t:=28) ?hr ?_;(case hd => rfl);(case hg => rfl);(case hr => first | (go_simp;done) | (go_simp;rfl));intro gb316 hg w20 hbox hb;have n0_:=Aside0.mk (Kd.R_below (by (with_reducible repeat (first | apply Kd.R_alloc | apply Kd.R_drewN | apply Kd.R_drew));exact HO294.out) hb);have n1_:=Aside0.mk (Kd.R_below (by (with_reducible repeat (first | apply Kd.R_alloc | apply Kd.R_drewN | apply Kd.R_drew));exact HO298.out) hb);have n2_:=Aside0.mk (Kd.R_below (by (with_reducible repeat (first | apply Kd.R_alloc | apply Kd.R_drewN | apply Kd.R_drew));exact HO301.out) hb);have n3_:=Aside0.mk (Kd.R_below (by (with_reducible repeat (first | apply Kd.R_alloc | apply Kd.R_drewN | apply Kd.R_drew));exact HO309.out) hb);have n4_:=Aside0.mk (Kd.R_below (by (with_reducible repeat (first | apply Kd.R_alloc | apply Kd.R_drewN | apply Kd.R_drew));exact HO312.out) hb);have n5_:=Aside0.mk (blk_below (g:=gb305) (o:=.cells #[.int .u64 t295,.slice Ao17 t296.length co17,.slice Ao18 t299.length co18,.bool t302,.int .u64 t303] 28 (0,0)) (by (with_reducible repeat (first | refine blk_drewN ?_ _ | refine blk_drew ?_ | refine blk_alloc ?_ _));exact BK305.out) hb);have n6_:=Aside0.mk (below_step (by repeat (first | (with_reducible first | exact HB.out | apply below_alloc | apply pw_below_drewN | apply below_drew1 | refine below_set ?_ GE305.out) | exact HB.out)) hb);have n7_:=Aside0.mk (hbox);have n8_:=Aside0.mk ((by rw [hg];exact (below_size (by repeat (first | (with_reducible first | exact HB.out | apply below_alloc | apply pw_below_drewN | apply below_drew1 | refine below_set ?_ GE305.out) | exact HB.out))) : w.heap.size ≤ gb316));have n9_:=Aside0.mk ((by rw [hg];exact (below_size (by repeat (first | (with_reducible first | exact HB.out | apply below_alloc | apply pw_below_drewN | apply below_drew1 | refine below_set ?_ GE305.out) | exact HB.out))) : w.heap.size ≤ gb316));have n10_:=Aside0.mk ((by rw [hg];exact Nat.ne_of_lt (blk_lt (g:=gb305) (o:=.cells #[.int .u64 t295,.slice Ao17 t296.length co17,.slice Ao18 t299.length co18,.bool t302,.int .u64 t303] 28 (0,0)) (by (with_reducible repeat (first | refine blk_drewN ?_ _ | refine blk_drew ?_ | refine blk_alloc ?_ _));exact BK305.out)) : gb305 ≠ gb316));have n11_:=Aside0.mk ((by rw [hg];exact Nat.ne_of_gt (blk_lt (g:=gb305) (o:=.cells #[.int .u64 t295,.slice Ao17 t296.length co17,.slice Ao18 t299.length co18,.bool t302,.int .u64 t303] 28 (0,0)) (by (with_reducible repeat (first | refine blk_drewN ?_ _ | refine blk_drew ?_ | refine blk_alloc ?_ _));exact BK305.out)) : gb316 ≠ gb305));clear HO294;clear HO298;clear HO301;clear HO309;clear HO312;clear BK305;clear HB;have HO294:=n0_;have HO298:=n1_;have HO301:=n2_;have HO309:=n3_;have HO312:=n4_;have BK305:=n5_;have HB:=n6_;have BK316:=n7_;have GW316:=n8_;have GE316:=n9_;have NB305_316:=n10_;have NB316_305:=n11_;clear n0_ n1_ n2_ n3_ n4_ n5_ n6_ n7_ n8_ n9_ n10_ n11_;clear hb hbox hg;have hnb21:=NB316_305.out;have hnc21:=NB305_316.out;have hcz22_0 : w20.cell? ⟨gb316,0,none⟩ = some (.int .u64 0):=(blk_cell BK316.out 0).trans rfl;have hcz22_1 : w20.cell? ⟨gb316,1,none⟩ = some (.slice none 0 0):=(blk_cell BK316.out 1).trans rfl;have hcz22_2 : w20.cell? ⟨gb316,2,none⟩ = some (.slice none 0 0):=(blk_cell BK316.out 2).trans rfl;have hcz22_3 : w20.cell? ⟨gb316,3,none⟩ = some (.bool false):=(blk_cell BK316.out 3).trans rfl;have hcz22_4 : w20.cell? ⟨gb316,4,none⟩ = some (.int .u64 0):=(blk_cell BK316.out 4).trans rfl;have hfz22_0:=blk_frozen BK316.out 0;have hfz22_1:=blk_frozen BK316.out 1;have hfz22_2:=blk_frozen BK316.out 2;have hfz22_3:=blk_frozen BK316.out 3;have hfz22_4:=blk_frozen BK316.out 4;obtain ⟨Ao23,co23,eo23⟩:=Kd.R_slice HO309.out;subst eo23;obtain ⟨Ao24,co24,eo24⟩:=Kd.R_slice HO312.out;subst eo24))
   go_loopg [11] k (fun kq v11 w' => ∃ (x6_1 : List Int) (x11_1 : Int) (x306002_1 : List Int) (x317002_1 : List Int) (u306002 : Value) (u317002 : Value),v11 = .int .i64 x11_1 ∧ Aside0 (wigwaglaw17_GatherOwn.l0 kq l0 a1 t288 x6_1 x11_1 t295 t296 x306002_1 t302 t303 t306 t307 x317002_1 t313 t314 = some r) ∧ Aside0 (kq ≤ k) ∧ Aside0 (Kd.R (Kd.int .u8) 5 w' w.heap.size (fun k_ => some k_ ≠ (u306002 : Value).ownBlock ∧ some k_ ≠ (u317002 : Value).ownBlock) (.slice Ao13 y292.length co13) x6_1) ∧ Aside0 (Kd.R k41 41 w' w.heap.size (fun k_ => some k_ ≠ ((.slice Ao23 t307.length co23) : Value).ownBlock) (.slice Ao17 t296.length co17) t296) ∧ Aside0 (Kd.R (Kd.int .u8) 5 w' w.heap.size (fun k_ => some k_ ≠ ((.slice Ao13 y292.length co13) : Value).ownBlock ∧ some k_ ≠ (u317002 : Value).ownBlock) u306002 x306002_1) ∧ Aside0 (Kd.R k41 41 w' w.heap.size (fun k_ => some k_ ≠ ((.slice Ao17 t296.length co17) : Value).ownBlock) (.slice Ao23 t307.length co23) t307) ∧ Aside0 (Kd.R (Kd.int .u8) 5 w' w.heap.size (fun k_ => some k_ ≠ ((.slice Ao13 y292.length co13) : Value).ownBlock ∧ some k_ ≠ (u306002 : Value).ownBlock) u317002 x317002_1) ∧ Aside0 (w'.heap[gb305]? = some (.cells #[.int .u64 t295,(.slice Ao17 t296.length co17),u306002,.bool t302,.int .u64 t303] 28 (0,0))) ∧ Aside0 (w'.heap[gb316]? = some (.cells #[.int .u64 t306,(.slice Ao23 t307.length co23),u317002,.bool t313,.int .u64 t314] 28 (0,0))) ∧ Aside0 (Below w.heap.size w w'))
   case atStart => exact ⟨(y292),(0),(t299),(t310),(.slice Ao18 t299.length co18),(.slice Ao24 t310.length co24),(by first | rfl | (simp;done) | (simp [*];done)),H',⟨Nat.le_refl _⟩,⟨by (with_reducible repeat (first | apply Kd.R_alloc | apply Kd.R_drewN | apply Kd.R_drew));exact Kd.R_mono (Kd.R_far (p:=⟨gb316,4,none⟩) (Kd.R_far (p:=⟨gb316,3,none⟩) (Kd.R_far (p:=⟨gb316,2,none⟩) (Kd.R_far (p:=⟨gb316,1,none⟩) (Kd.R_far (p:=⟨gb316,0,none⟩) (Kd.R_types HO294.out BK316.out (by decide)) (fun _ hk => hk.2) (.int .u64 t306)) (fun _ hk => hk.2) (.slice Ao23 t307.length co23)) (fun _ hk => hk.2) (.slice Ao24 t310.length co24)) (fun _ hk => hk.2) (.bool t313)) (fun _ hk => hk.2) (.int .u64 t314)) (fun _ hk => ⟨hk.1.1.2,hk.1.2⟩)⟩,⟨by (with_reducible repeat (first | apply Kd.R_alloc | apply Kd.R_drewN | apply Kd.R_drew));exact Kd.R_mono (Kd.R_far (p:=⟨gb316,4,none⟩) (Kd.R_far (p:=⟨gb316,3,none⟩) (Kd.R_far (p:=⟨gb316,2,none⟩) (Kd.R_far (p:=⟨gb316,1,none⟩) (Kd.R_far (p:=⟨gb316,0,none⟩) (Kd.R_types HO298.out BK316.out (by decide)) (fun _ hk => hk.2) (.int .u64 t306)) (fun _ hk => hk.2) (.slice Ao23 t307.length co23)) (fun _ hk => hk.2) (.slice Ao24 t310.length co24)) (fun _ hk => hk.2) (.bool t313)) (fun _ hk => hk.2) (.int .u64 t314)) (fun _ hk => hk.1.2)⟩,⟨by (with_reducible repeat (first | apply Kd.R_alloc | apply Kd.R_drewN | apply Kd.R_drew));exact Kd.R_mono (Kd.R_far (p:=⟨gb316,4,none⟩) (Kd.R_far (p:=⟨gb316,3,none⟩) (Kd.R_far (p:=⟨gb316,2,none⟩) (Kd.R_far (p:=⟨gb316,1,none⟩) (Kd.R_far (p:=⟨gb316,0,none⟩) (Kd.R_types HO301.out BK316.out (by decide)) (fun _ hk => hk.2) (.int .u64 t306)) (fun _ hk => hk.2) (.slice Ao23 t307.length co23)) (fun _ hk => hk.2) (.slice Ao24 t310.length co24)) (fun _ hk => hk.2) (.bool t313)) (fun _ hk => hk.2) (.int .u64 t314)) (fun _ hk => ⟨hk.1.1.2,hk.1.2⟩)⟩,⟨by (with_reducible repeat (first | apply Kd.R_alloc | apply Kd.R_drewN | apply Kd.R_drew));exact Kd.R_mono (Kd.R_far (p:=⟨gb316,4,none⟩) (Kd.R_far (p:=⟨gb316,3,none⟩) (Kd.R_far (p:=⟨gb316,2,none⟩) (Kd.R_far (p:=⟨gb316,1,none⟩) (Kd.R_far (p:=⟨gb316,0,none⟩) (Kd.R_types HO309.out BK316.out (by decide)) (fun _ hk => hk.2) (.int .u64 t306)) (fun _ hk => hk.2) (.slice Ao23 t307.length co23)) (fun _ hk => hk.2) (.slice Ao24 t310.length co24)) (fun _ hk => hk.2) (.bool t313)) (fun _ hk => hk.2) (.int .u64 t314)) (fun _ hk => hk.1.2)⟩,⟨by (with_reducible repeat (first | apply Kd.R_alloc | apply Kd.R_drewN | apply Kd.R_drew));exact Kd.R_mono (Kd.R_far (p:=⟨gb316,4,none⟩) (Kd.R_far (p:=⟨gb316,3,none⟩) (Kd.R_far (p:=⟨gb316,2,none⟩) (Kd.R_far (p:=⟨gb316,1,none⟩) (Kd.R_far (p:=⟨gb316,0,none⟩) (Kd.R_types HO312.out BK316.out (by decide)) (fun _ hk => hk.2) (.int .u64 t306)) (fun _ hk => hk.2) (.slice Ao23 t307.length co23)) (fun _ hk => hk.2) (.slice Ao24 t310.length co24)) (fun _ hk => hk.2) (.bool t313)) (fun _ hk => hk.2) (.int .u64 t314)) (fun _ hk => ⟨hk.1.1.2,hk.1.2⟩)⟩,⟨by (with_reducible repeat (first | refine blk_drewN ?_ _ | refine blk_drew ?_ | refine blk_alloc ?_ _));refine blk_far ?_ NB305_316.out _;(with_reducible repeat (first | refine blk_drewN ?_ _ | refine blk_drew ?_ | refine blk_alloc ?_ _));refine blk_far ?_ NB305_316.out _;(with_reducible repeat (first | refine blk_drewN ?_ _ | refine blk_drew ?_ | refine blk_alloc ?_ _));refine blk_far ?_ NB305_316.out _;(with_reducible repeat (first | refine blk_drewN ?_ _ | refine blk_drew ?_ | refine blk_alloc ?_ _));refine blk_far ?_ NB305_316.out _;(with_reducible repeat (first | refine blk_drewN ?_ _ | refine blk_drew ?_ | refine blk_alloc ?_ _));refine blk_far ?_ NB305_316.out _;(with_reducible repeat (first | refine blk_drewN ?_ _ | refine blk_drew ?_ | refine blk_alloc ?_ _));exact BK305.out⟩,⟨by (with_reducible repeat (first | refine blk_drewN ?_ _ | refine blk_drew ?_ | refine blk_alloc ?_ _));refine blk_put (cs:=#[.int .u64 t306,.slice Ao23 t307.length co23,.slice Ao24 t310.length co24,.bool t313,.int .u64 0]) ?_ 4 _ rfl;(with_reducible repeat (first | refine blk_drewN ?_ _ | refine blk_drew ?_ | refine blk_alloc ?_ _));refine blk_put (cs:=#[.int .u64 t306,.slice Ao23 t307.length co23,.slice Ao24 t310.length co24,.bool false,.int .u64 0]) ?_ 3 _ rfl;(with_reducible repeat (first | refine blk_drewN ?_ _ | refine blk_drew ?_ | refine blk_alloc ?_ _));refine blk_put (cs:=#[.int .u64 t306,.slice Ao23 t307.length co23,.slice none 0 0,.bool false,.int .u64 0]) ?_ 2 _ rfl;(with_reducible repeat (first | refine blk_drewN ?_ _ | refine blk_drew ?_ | refine blk_alloc ?_ _));refine blk_put (cs:=#[.int .u64 t306,.slice none 0 0,.slice none 0 0,.bool false,.int .u64 0]) ?_ 1 _ rfl;(with_reducible repeat (first | refine blk_drewN ?_ _ | refine blk_drew ?_ | refine blk_alloc ?_ _));refine blk_put (cs:=#[.int .u64 0,.slice none 0 0,.slice none 0 0,.bool false,.int .u64 0]) ?_ 0 _ rfl;(with_reducible repeat (first | refine blk_drewN ?_ _ | refine blk_drew ?_ | refine blk_alloc ?_ _));exact BK316.out⟩,⟨by repeat (first | (with_reducible first | exact HB.out | apply below_alloc | apply pw_below_drewN | apply below_drew1 | refine below_set ?_ GE305.out | refine below_set ?_ GE316.out) | exact HB.out)⟩⟩
   case round =>
    clear H'
    try clear c1
    try clear c2
    try clear p2
    try clear c4
    try clear c4b0
    try clear c4b1
    try clear c6
    try clear c9
    try clear c10
    try clear c21
    try clear hcz16_0
    try clear hcz16_1
    try clear hcz16_2
    try clear hcz16_3
    try clear hcz16_4
    try clear hcz22_0
    try clear hcz22_1
    try clear hcz22_2
    try clear hcz22_3
    try clear hcz22_4
    try clear hfz16_0
    try clear hfz16_1
    try clear hfz16_2
    try clear hfz16_3
    try clear hfz16_4
    try clear hfz22_0
    try clear hfz22_1
    try clear hfz22_2
    try clear hfz22_3
    try clear hfz22_4
    obtain ⟨x6_1,x11_1,x306002_1,x317002_1,u306002,u317002,rfl,HA,HK1,HO_6,HO_306001,HO_306002,HO_317001,HO_317002,BK305,BK316,HB⟩:=hrel
    have hl6_1:=(Kd.R_reads' HO_6.out).1
    rw [hl6_1] at HO_6
    (try simp only [hl6_1])
    (try simp only [hl6_1] at BK305)
    (try simp only [hl6_1] at BK316)
    (try simp only [hl6_1] at HO_306001)
    (try simp only [hl6_1] at HO_306002)
    (try simp only [hl6_1] at HO_317001)
    (try simp only [hl6_1] at HO_317002)
    cases gk with
    | zero => exact absurd HA.out (by simp [wigwaglaw17_GatherOwn.l0])
    | succ k1 =>
     have H:=HA.out
     clear HA
     simp only [wigwaglaw17_GatherOwn.l0] at H
     by_cases c25 : x11_1 < (x317002_1.length : Int)
     ·rw [if_pos c25] at H
      have c25b0 : decide (x11_1 < (x317002_1.length : Int)) = true:=decide_eq_true c25
      clear c25
      by_cases c26 : 0 ≤ x11_1
      ·rw [if_pos c26] at H
       have c26b0 : decide (0 ≤ x11_1) = true:=decide_eq_true c26
       clear c26
       obtain ⟨y317,hy317⟩ : ∃ y_ : List Int,y_ = (x317002_1.set (x11_1 : Int).toNat 99):=⟨_,rfl⟩
       replace H : (wigwaglaw17_GatherOwn.l0 k1 l0 a1 t288 x6_1 (wrap64 (x11_1 + 1)) t295 t296 x306002_1 t302 t303 t306 t307 y317 t313 t314) = some r:=by first | (rw [hy317];with_reducible exact H) | (have H2_:=(Option.bind_some _ _).symm.trans H;rw [hy317];with_reducible exact H2_) | (have H2_:=(Option.bind_some _ _).symm.trans H;with_reducible exact H2_) | with_reducible exact H | (rw [hy317];exact H) | exact H
       have Ny317:=Aside0.mk hy317
       clear hy317
       have H':=Aside0.mk H
       clear H
       have hnb28:=NB316_305.out
       have hnc28:=NB305_316.out
       have hcz29_0 : wr.cell? ⟨gb316,0,none⟩ = some (.int .u64 t306):=(blk_cell BK316.out 0).trans rfl
       have hcz29_1 : wr.cell? ⟨gb316,1,none⟩ = some (.slice Ao23 t307.length co23):=(blk_cell BK316.out 1).trans rfl
       have hcz29_2 : wr.cell? ⟨gb316,2,none⟩ = some (u317002):=(blk_cell BK316.out 2).trans rfl
       have hcz29_3 : wr.cell? ⟨gb316,3,none⟩ = some (.bool t313):=(blk_cell BK316.out 3).trans rfl
       have hcz29_4 : wr.cell? ⟨gb316,4,none⟩ = some (.int .u64 t314):=(blk_cell BK316.out 4).trans rfl
       have hfz29_0:=blk_frozen BK316.out 0
       have hfz29_1:=blk_frozen BK316.out 1
       have hfz29_2:=blk_frozen BK316.out 2
       have hfz29_3:=blk_frozen BK316.out 3
       have hfz29_4:=blk_frozen BK316.out 4
       obtain ⟨Ao30,co30,eo30⟩:=Kd.R_slice HO_317002.out
       subst eo30
       have p27 : 0 ≤ (x11_1 : Int):=of_decide_eq_true (by first | (with_reducible assumption) | assumption)
       have q27 : (x11_1 : Int) < ((x317002_1.length : Int) : Int):=of_decide_eq_true (by first | (with_reducible assumption) | assumption)
       obtain ⟨go27,co27,eo27,gb27,gl27,cl27,HG27⟩:=Kd.R_form HO_317002.out (by omega)
       (first | cases eo27 | (injection eo27 with ea_ en_ ec_;(first | subst ea_ | (injection ea_ with ea_;subst ea_));subst ec_;clear en_))
       have GB27:=Aside0.mk gb27
       have GG27:=Aside0.mk HG27
       clear gb27 gl27 HG27
       obtain ⟨hx27_0,hf27_0⟩:=Kd.R_celln 0 HO_317002.out (x11_1 : Int) p27 q27
       replace p27:=eq_true p27
       replace q27:=eq_true q27
       have HP31:=Kd.R_putg HO_317002.out (x11_1 : Int) 99
       go_wp2_with (first | ((with_reducible refine gate_store (t:=5) (p:=48) rfl ?_);refine store_event (t:=5) (p:=48) (v:=?vo_w32) (w1:=(wr.setCell ⟨go27,(x11_1 : Int).toNat,none⟩ (.int .u8 99))) ?hg ?ho ?hn ?hr ?_;(case ho => rfl);(case hg => rfl);(case hn => rfl);(case hr => first | (go_simp;done) | (go_simp;rfl));intro w32 hw;have hg : wr.grownBy w32 (some go27):=(by rw [hw];exact HP31.2);have hp_ : Kd.R (Kd.int .u8) 5 w32 w.heap.size (fun k_ => some k_ ≠ (.slice Ao13 x6_1.length co13 : Value).ownBlock ∧ some k_ ≠ (u306002 : Value).ownBlock) (.slice (some ⟨go27,0,none⟩) x317002_1.length co30) y317:=(by rw [hw,Ny317.out];exact HP31.1);clear HP31;have n0_:=Aside0.mk (Kd.R_after (v:=(.slice (some ⟨go27,0,none⟩) x317002_1.length co30)) (v1:=(.slice (some ⟨go27,0,none⟩) x317002_1.length co30)) (ok:=(fun k_ => some k_ ≠ (u306002 : Value).ownBlock)) (by (with_reducible repeat (first | apply Kd.R_alloc | apply Kd.R_drewN | apply Kd.R_drew));exact HO_6.out) hg (.inl rfl));have n1_:=Aside0.mk (Kd.R_over' (v:=(.slice (some ⟨go27,0,none⟩) x317002_1.length co30)) (by (with_reducible repeat (first | apply Kd.R_alloc | apply Kd.R_drewN | apply Kd.R_drew));exact HO_306001.out) (Kd.R_typed HO_317002.out) (by decide) hg);have n2_:=Aside0.mk (Kd.R_after (v:=(.slice (some ⟨go27,0,none⟩) x317002_1.length co30)) (v1:=(.slice (some ⟨go27,0,none⟩) x317002_1.length co30)) (ok:=(fun k_ => some k_ ≠ (.slice Ao13 x6_1.length co13 : Value).ownBlock)) (by (with_reducible repeat (first | apply Kd.R_alloc | apply Kd.R_drewN | apply Kd.R_drew));exact HO_306002.out) hg (.inl rfl));have n3_:=Aside0.mk (Kd.R_over' (v:=(.slice (some ⟨go27,0,none⟩) x317002_1.length co30)) (by (with_reducible repeat (first | apply Kd.R_alloc | apply Kd.R_drewN | apply Kd.R_drew));exact HO_317001.out) (Kd.R_typed HO_317002.out) (by decide) hg);have n4_:=Aside0.mk (hp_);have n5_:=Aside0.mk (blk_grown (g:=gb305) (o:=.cells #[.int .u64 t295,.slice Ao17 t296.length co17,u306002,.bool t302,.int .u64 t303] 28 (0,0)) (by (with_reducible repeat (first | refine blk_drewN ?_ _ | refine blk_drew ?_ | refine blk_alloc ?_ _));exact BK305.out) hg (Kd.R_ne HO_317002.out BK305.out (by decide)));have n6_:=Aside0.mk (blk_grown (g:=gb316) (o:=.cells #[.int .u64 t306,.slice Ao23 t307.length co23,.slice (some ⟨go27,0,none⟩) x317002_1.length co30,.bool t313,.int .u64 t314] 28 (0,0)) (by (with_reducible repeat (first | refine blk_drewN ?_ _ | refine blk_drew ?_ | refine blk_alloc ?_ _));exact BK316.out) hg (Kd.R_ne HO_317002.out BK316.out (by decide)));have n7_:=Aside0.mk ((by rw [hw];exact below_set (HB.out) GB27.out : Below w.heap.size w w32));clear HO_6;clear HO_306001;clear HO_306002;clear HO_317001;clear HO_317002;clear BK305;clear BK316;clear HB;have HO_6:=n0_;have HO_306001:=n1_;have HO_306002:=n2_;have HO_317001:=n3_;have HO_317002:=n4_;have BK305:=n5_;have BK316:=n6_;have HB:=n7_;clear n0_ n1_ n2_ n3_ n4_ n5_ n6_ n7_;clear hg hw hp_))
       (try simp only [← hl6_1])
       go_roundg k1
       case measure => have:=HK1.out;omega
       case rel => exact ⟨(x6_1),(wrap64 (x11_1 + 1)),(x306002_1),(y317),(u306002),(.slice (some ⟨go27,0,none⟩) x317002_1.length co30),(by first | rfl | (simp;done) | (simp [*];done)),H',⟨by have:=HK1.out;omega⟩,⟨by (try simp only [hl6_1]);(with_reducible repeat (first | apply Kd.R_alloc | apply Kd.R_drewN | apply Kd.R_drew));exact HO_6.out⟩,⟨by (try simp only [hl6_1]);(with_reducible repeat (first | apply Kd.R_alloc | apply Kd.R_drewN | apply Kd.R_drew));exact HO_306001.out⟩,⟨by (try simp only [hl6_1]);(with_reducible repeat (first | apply Kd.R_alloc | apply Kd.R_drewN | apply Kd.R_drew));exact HO_306002.out⟩,⟨by (try simp only [hl6_1]);(with_reducible repeat (first | apply Kd.R_alloc | apply Kd.R_drewN | apply Kd.R_drew));exact HO_317001.out⟩,⟨by (try simp only [hl6_1]);(with_reducible repeat (first | apply Kd.R_alloc | apply Kd.R_drewN | apply Kd.R_drew));exact HO_317002.out⟩,⟨by (try simp only [hl6_1]);(with_reducible repeat (first | refine blk_drewN ?_ _ | refine blk_drew ?_ | refine blk_alloc ?_ _));exact BK305.out⟩,⟨by (try simp only [hl6_1]);(with_reducible repeat (first | refine blk_drewN ?_ _ | refine blk_drew ?_ | refine blk_alloc ?_ _));exact BK316.out⟩,⟨by repeat (first | (with_reducible first | exact HB.out | apply below_alloc | apply pw_below_drewN | apply below_drew1 | refine below_set ?_ GE305.out | refine below_set ?_ GE316.out) | exact HB.out)⟩⟩
      ·rw [if_neg c26] at H
       exact absurd H (by simp)
     ·rw [if_neg c25] at H
      have c25b0 : decide (x11_1 < (x317002_1.length : Int)) = false:=decide_eq_false c25
      clear c25
      have H':=Aside0.mk H
      clear H
      have hnb33:=NB316_305.out
      have hnc33:=NB305_316.out
      have hcz34_0 : wr.cell? ⟨gb316,0,none⟩ = some (.int .u64 t306):=(blk_cell BK316.out 0).trans rfl
      have hcz34_1 : wr.cell? ⟨gb316,1,none⟩ = some (.slice Ao23 t307.length co23):=(blk_cell BK316.out 1).trans rfl
      have hcz34_2 : wr.cell? ⟨gb316,2,none⟩ = some (u317002):=(blk_cell BK316.out 2).trans rfl
      have hcz34_3 : wr.cell? ⟨gb316,3,none⟩ = some (.bool t313):=(blk_cell BK316.out 3).trans rfl
      have hcz34_4 : wr.cell? ⟨gb316,4,none⟩ = some (.int .u64 t314):=(blk_cell BK316.out 4).trans rfl
      have hfz34_0:=blk_frozen BK316.out 0
      have hfz34_1:=blk_frozen BK316.out 1
      have hfz34_2:=blk_frozen BK316.out 2
      have hfz34_3:=blk_frozen BK316.out 3
      have hfz34_4:=blk_frozen BK316.out 4
      obtain ⟨Ao35,co35,eo35⟩:=Kd.R_slice HO_317002.out
      subst eo35
      go_wp2
      go_loopg [12] k1 (fun kq v12 w' => ∃ (x12_2 : Int) (x306001_2 : List (S41)) (x317001_2 : List (S41)) (u306001 : Value) (u317001 : Value),v12 = .int .i64 x12_2 ∧ Aside0 (wigwaglaw17_GatherOwn.l1 kq l0 a1 t288 x6_1 x12_2 t295 x306001_2 x306002_1 t302 t303 t306 x317001_2 x317002_1 t313 t314 = some r) ∧ Aside0 (kq ≤ k1) ∧ Aside0 (Kd.R (Kd.int .u8) 5 w' w.heap.size (fun k_ => some k_ ≠ (u306002 : Value).ownBlock ∧ some k_ ≠ ((.slice Ao35 x317002_1.length co35) : Value).ownBlock) (.slice Ao13 x6_1.length co13) x6_1) ∧ Aside0 (Kd.R k41 41 w' w.heap.size (fun k_ => some k_ ≠ (u317001 : Value).ownBlock) u306001 x306001_2) ∧ Aside0 (Kd.R (Kd.int .u8) 5 w' w.heap.size (fun k_ => some k_ ≠ ((.slice Ao13 x6_1.length co13) : Value).ownBlock ∧ some k_ ≠ ((.slice Ao35 x317002_1.length co35) : Value).ownBlock) u306002 x306002_1) ∧ Aside0 (Kd.R k41 41 w' w.heap.size (fun k_ => some k_ ≠ (u306001 : Value).ownBlock) u317001 x317001_2) ∧ Aside0 (Kd.R (Kd.int .u8) 5 w' w.heap.size (fun k_ => some k_ ≠ ((.slice Ao13 x6_1.length co13) : Value).ownBlock ∧ some k_ ≠ (u306002 : Value).ownBlock) (.slice Ao35 x317002_1.length co35) x317002_1) ∧ Aside0 (w'.heap[gb305]? = some (.cells #[.int .u64 t295,u306001,u306002,.bool t302,.int .u64 t303] 28 (0,0))) ∧ Aside0 (w'.heap[gb316]? = some (.cells #[.int .u64 t306,u317001,(.slice Ao35 x317002_1.length co35),.bool t313,.int .u64 t314] 28 (0,0))) ∧ Aside0 (Below w.heap.size w w'))
      case atStart => exact ⟨(0),(t296),(t307),(.slice Ao17 t296.length co17),(.slice Ao23 t307.length co23),(by first | rfl | (simp;done) | (simp [*];done)),H',⟨Nat.le_refl _⟩,⟨by (try simp only [hl6_1]);(with_reducible repeat (first | apply Kd.R_alloc | apply Kd.R_drewN | apply Kd.R_drew));exact HO_6.out⟩,⟨by (try simp only [hl6_1]);(with_reducible repeat (first | apply Kd.R_alloc | apply Kd.R_drewN | apply Kd.R_drew));exact HO_306001.out⟩,⟨by (try simp only [hl6_1]);(with_reducible repeat (first | apply Kd.R_alloc | apply Kd.R_drewN | apply Kd.R_drew));exact HO_306002.out⟩,⟨by (try simp only [hl6_1]);(with_reducible repeat (first | apply Kd.R_alloc | apply Kd.R_drewN | apply Kd.R_drew));exact HO_317001.out⟩,⟨by (try simp only [hl6_1]);(with_reducible repeat (first | apply Kd.R_alloc | apply Kd.R_drewN | apply Kd.R_drew));exact HO_317002.out⟩,⟨by (try simp only [hl6_1]);(with_reducible repeat (first | refine blk_drewN ?_ _ | refine blk_drew ?_ | refine blk_alloc ?_ _));exact BK305.out⟩,⟨by (try simp only [hl6_1]);(with_reducible repeat (first | refine blk_drewN ?_ _ | refine blk_drew ?_ | refine blk_alloc ?_ _));exact BK316.out⟩,⟨by repeat (first | (with_reducible first | exact HB.out | apply below_alloc | apply pw_below_drewN | apply below_drew1 | refine below_set ?_ GE305.out | refine below_set ?_ GE316.out) | exact HB.out)⟩⟩
      case round =>
       clear H'
       try clear c1
       try clear c2
       try clear p2
       try clear q2
       try clear hx2
       try clear hf2
       try clear c3
       try clear c4
       try clear c4b0
       try clear c4b1
       try clear c6
       try clear p6
       try clear c9
       try clear c10
       try clear c21
       try clear c25
       try clear c25b0
       try clear c26
       try clear c26b0
       try clear p27
       try clear q27
       try clear hx27
       try clear hf27
       try clear c28
       try clear c33
       try clear hcz16_0
       try clear hcz16_1
       try clear hcz16_2
       try clear hcz16_3
       try clear hcz16_4
       try clear hcz22_0
       try clear hcz22_1
       try clear hcz22_2
       try clear hcz22_3
       try clear hcz22_4
       try clear hcz29_0
       try clear hcz29_1
       try clear hcz29_2
       try clear hcz29_3
       try clear hcz29_4
       try clear hcz34_0
       try clear hcz34_1
       try clear hcz34_2
       try clear hcz34_3
       try clear hcz34_4
       try clear hfz16_0
       try clear hfz16_1
       try clear hfz16_2
       try clear hfz16_3
       try clear hfz16_4
       try clear hfz22_0
       try clear hfz22_1
       try clear hfz22_2
       try clear hfz22_3
       try clear hfz22_4
       try clear hfz29_0
       try clear hfz29_1
       try clear hfz29_2
       try clear hfz29_3
       try clear hfz29_4
       try clear hfz34_0
       try clear hfz34_1
       try clear hfz34_2
       try clear hfz34_3
       try clear hfz34_4
       try clear hx27_0
       try clear p2
       try clear p27
       try clear q27
       obtain ⟨x12_2,x306001_2,x317001_2,u306001,u317001,rfl,HA,HK2,HO_6,HO_306001,HO_306002,HO_317001,HO_317002,BK305,BK316,HB⟩:=hrel
       cases gk with
       | zero => exact absurd HA.out (by simp [wigwaglaw17_GatherOwn.l1])
       | succ k2 =>
        have H:=HA.out
        clear HA
        simp only [wigwaglaw17_GatherOwn.l1] at H
        by_cases c36 : x12_2 < (x317001_2.length : Int)
        ·rw [if_pos c36] at H
         have c36b0 : decide (x12_2 < (x317001_2.length : Int)) = true:=decide_eq_true c36
         clear c36
         by_cases c37 : 0 ≤ x12_2
         ·rw [if_pos c37] at H
          have c37b0 : decide (0 ≤ x12_2) = true:=decide_eq_true c37
          clear c37
          obtain ⟨y318,hy318⟩ : ∃ y_ : List (S41),y_ = (x317001_2.set (x12_2 : Int).toNat (⟨99,(rd_T41 x317001_2 x12_2).f1⟩ : S41)):=⟨_,rfl⟩
          replace H : (wigwaglaw17_GatherOwn.l1 k2 l0 a1 t288 x6_1 (wrap64 (x12_2 + 1)) t295 x306001_2 x306002_1 t302 t303 t306 y318 x317002_1 t313 t314) = some r:=by first | (rw [hy318];with_reducible exact H) | (have H2_:=(Option.bind_some _ _).symm.trans H;rw [hy318];with_reducible exact H2_) | (have H2_:=(Option.bind_some _ _).symm.trans H;with_reducible exact H2_) | with_reducible exact H | (rw [hy318];exact H) | exact H
          have Ny318:=Aside0.mk hy318
          clear hy318
          have H':=Aside0.mk H
          clear H
          have hnb39:=NB316_305.out
          have hnc39:=NB305_316.out
          have hcz40_0 : wr.cell? ⟨gb316,0,none⟩ = some (.int .u64 t306):=(blk_cell BK316.out 0).trans rfl
          have hcz40_1 : wr.cell? ⟨gb316,1,none⟩ = some (u317001):=(blk_cell BK316.out 1).trans rfl
          have hcz40_2 : wr.cell? ⟨gb316,2,none⟩ = some (.slice Ao35 x317002_1.length co35):=(blk_cell BK316.out 2).trans rfl
          have hcz40_3 : wr.cell? ⟨gb316,3,none⟩ = some (.bool t313):=(blk_cell BK316.out 3).trans rfl
          have hcz40_4 : wr.cell? ⟨gb316,4,none⟩ = some (.int .u64 t314):=(blk_cell BK316.out 4).trans rfl
          have hfz40_0:=blk_frozen BK316.out 0
          have hfz40_1:=blk_frozen BK316.out 1
          have hfz40_2:=blk_frozen BK316.out 2
          have hfz40_3:=blk_frozen BK316.out 3
          have hfz40_4:=blk_frozen BK316.out 4
          obtain ⟨Ao41,co41,eo41⟩:=Kd.R_slice HO_317001.out
          subst eo41
          have p38 : 0 ≤ (x12_2 : Int):=of_decide_eq_true (by first | (with_reducible assumption) | assumption)
          have q38 : (x12_2 : Int) < ((x317001_2.length : Int) : Int):=of_decide_eq_true (by first | (with_reducible assumption) | assumption)
          obtain ⟨go38,co38,eo38,gb38,gl38,cl38,HG38⟩:=Kd.R_form HO_317001.out (by omega)
          (first | cases eo38 | (injection eo38 with ea_ en_ ec_;(first | subst ea_ | (injection ea_ with ea_;subst ea_));subst ec_;clear en_))
          have GB38:=Aside0.mk gb38
          have GG38:=Aside0.mk HG38
          clear gb38 gl38 HG38
          obtain ⟨ce38,hcl38,hM38,hcc38,hfr38⟩:=Kd.R_elem HO_317001.out z41 (x12_2 : Int) p38 q38
          obtain rfl:=k41_openM hM38
          have hx38_0 : wr.cell? ⟨go38,(x12_2 : Int).toNat * 2,none⟩ = some (.int .u64 ((rd_T41 x317001_2 x12_2).f0)):=hcc38 0 _ rfl
          have hx38_1 : wr.cell? ⟨go38,(x12_2 : Int).toNat * 2 + 1,none⟩ = some (.int .u64 ((rd_T41 x317001_2 x12_2).f1)):=hcc38 1 _ rfl
          have hf38_0 : wr.frozen? ⟨go38,(x12_2 : Int).toNat * 2,none⟩ = false:=hfr38 0
          have hf38_1 : wr.frozen? ⟨go38,(x12_2 : Int).toNat * 2 + 1,none⟩ = false:=hfr38 1
          clear hcl38 hcc38 hfr38 hM38
          replace p38:=eq_true p38
          replace q38:=eq_true q38
          have HX42:=Aside0.mk (show Kd.R k41 41 wr w.heap.size (fun k_ => some k_ ≠ (u306001 : Value).ownBlock) (.slice (some ⟨go38,0,none⟩) x317001_2.length co41) x317001_2 from (by (with_reducible repeat (first | apply Kd.R_alloc | apply Kd.R_drewN | apply Kd.R_drew));exact HO_317001.out))
          obtain ⟨ce42,hcl42,hM42,hcc42,hfr42⟩:=Kd.R_elem HX42.out z41 (x12_2 : Int) (of_decide_eq_true (by first | (with_reducible assumption) | assumption)) (by have h_ : (x12_2 : Int) < ((x317001_2.length : Int) : Int):=of_decide_eq_true (by first | (with_reducible assumption) | assumption);first | exact h_ | (have e_:=(Kd.R_reads' HO_317001.out).1;omega) | simpa using h_)
          obtain rfl:=k41_openM hM42
          have HP42:=Kd.R_seg HX42.out (x12_2 : Int) (of_decide_eq_true (by first | (with_reducible assumption) | assumption)) (by have h_ : (x12_2 : Int) < ((x317001_2.length : Int) : Int):=of_decide_eq_true (by first | (with_reducible assumption) | assumption);first | exact h_ | (have e_:=(Kd.R_reads' HO_317001.out).1;omega) | simpa using h_) (seg:=[.int .u64 99]) (j:=0) hcl42 hcc42 (show 1 ≤ 2 from by decide) (x':=(⟨99,(rd_T41 x317001_2 x12_2).f1⟩ : S41)) (k41_mkM _ _ _ (⟨99,(rd_T41 x317001_2 x12_2).f1⟩ : S41) ) (fun _ hk => hk)
          have hx42_0:=hcc42 0 _ rfl
          (try simp only [show (k41).sz = 2 from rfl,Nat.mul_one,Nat.add_zero] at hx42_0)
          have hf42_0:=hfr42 0
          (try simp only [show (k41).sz = 2 from rfl,Nat.mul_one,Nat.add_zero] at hf42_0)
          clear hcl42 hcc42 hfr42 hM42
          go_wp2_with (first | ((with_reducible refine gate_store (t:=25) (p:=60) rfl ?_);refine store_event (t:=25) (p:=60) (v:=?vo_w43) (w1:=(wr.setCell ⟨go38,(x12_2 : Int).toNat * 2,none⟩ (.int .u64 99))) ?hg ?ho ?hn ?hr ?_;(case ho => rfl);(case hg => rfl);(case hn => rfl);(case hr => first | (go_simp;done) | (go_simp;rfl));intro w43 hw;have hg : wr.grownBy w43 (some go38):=(by rw [hw];exact HP42.2);have hp_ : Kd.R k41 41 w43 w.heap.size (fun k_ => some k_ ≠ (u306001 : Value).ownBlock) (.slice (some ⟨go38,0,none⟩) x317001_2.length co41) y318:=(by rw [hw,Ny318.out];exact HP42.1);clear HP42;have n0_:=Aside0.mk (Kd.R_over' (v:=(.slice (some ⟨go38,0,none⟩) x317001_2.length co41)) (by (with_reducible repeat (first | apply Kd.R_alloc | apply Kd.R_drewN | apply Kd.R_drew));exact HO_6.out) (Kd.R_typed HO_317001.out) (by decide) hg);have n1_:=Aside0.mk (Kd.R_after (v:=(.slice (some ⟨go38,0,none⟩) x317001_2.length co41)) (v1:=(.slice (some ⟨go38,0,none⟩) x317001_2.length co41)) (ok:=(fun _ => True)) (by (with_reducible repeat (first | apply Kd.R_alloc | apply Kd.R_drewN | apply Kd.R_drew));exact Kd.R_mono HO_306001.out (fun _ hk => ⟨trivial,hk⟩)) hg (.inl rfl));have n2_:=Aside0.mk (Kd.R_over' (v:=(.slice (some ⟨go38,0,none⟩) x317001_2.length co41)) (by (with_reducible repeat (first | apply Kd.R_alloc | apply Kd.R_drewN | apply Kd.R_drew));exact HO_306002.out) (Kd.R_typed HO_317001.out) (by decide) hg);have n3_:=Aside0.mk (hp_);have n4_:=Aside0.mk (Kd.R_over' (v:=(.slice (some ⟨go38,0,none⟩) x317001_2.length co41)) (by (with_reducible repeat (first | apply Kd.R_alloc | apply Kd.R_drewN | apply Kd.R_drew));exact HO_317002.out) (Kd.R_typed HO_317001.out) (by decide) hg);have n5_:=Aside0.mk (blk_grown (g:=gb305) (o:=.cells #[.int .u64 t295,u306001,u306002,.bool t302,.int .u64 t303] 28 (0,0)) (by (with_reducible repeat (first | refine blk_drewN ?_ _ | refine blk_drew ?_ | refine blk_alloc ?_ _));exact BK305.out) hg (Kd.R_ne HO_317001.out BK305.out (by decide)));have n6_:=Aside0.mk (blk_grown (g:=gb316) (o:=.cells #[.int .u64 t306,.slice (some ⟨go38,0,none⟩) x317001_2.length co41,.slice Ao35 x317002_1.length co35,.bool t313,.int .u64 t314] 28 (0,0)) (by (with_reducible repeat (first | refine blk_drewN ?_ _ | refine blk_drew ?_ | refine blk_alloc ?_ _));exact BK316.out) hg (Kd.R_ne HO_317001.out BK316.out (by decide)));have n7_:=Aside0.mk ((by rw [hw];exact below_set (HB.out) GB38.out : Below w.heap.size w w43));clear HO_6;clear HO_306001;clear HO_306002;clear HO_317001;clear HO_317002;clear BK305;clear BK316;clear HB;have HO_6:=n0_;have HO_306001:=n1_;have HO_306002:=n2_;have HO_317001:=n3_;have HO_317002:=n4_;have BK305:=n5_;have BK316:=n6_;have HB:=n7_;clear n0_ n1_ n2_ n3_ n4_ n5_ n6_ n7_;clear hg hw hp_))
          go_roundg k2
          case measure => have:=HK1.out;have:=HK2.out;omega
          case rel => exact ⟨(wrap64 (x12_2 + 1)),(x306001_2),(y318),(u306001),(.slice (some ⟨go38,0,none⟩) x317001_2.length co41),(by first | rfl | (simp;done) | (simp [*];done)),H',⟨by have:=HK1.out;have:=HK2.out;omega⟩,⟨by (try simp only [hl6_1]);(with_reducible repeat (first | apply Kd.R_alloc | apply Kd.R_drewN | apply Kd.R_drew));exact HO_6.out⟩,⟨by (try simp only [hl6_1]);(with_reducible repeat (first | apply Kd.R_alloc | apply Kd.R_drewN | apply Kd.R_drew));exact Kd.R_mono HO_306001.out (fun _ hk => hk.2)⟩,⟨by (try simp only [hl6_1]);(with_reducible repeat (first | apply Kd.R_alloc | apply Kd.R_drewN | apply Kd.R_drew));exact HO_306002.out⟩,⟨by (try simp only [hl6_1]);(with_reducible repeat (first | apply Kd.R_alloc | apply Kd.R_drewN | apply Kd.R_drew));exact HO_317001.out⟩,⟨by (try simp only [hl6_1]);(with_reducible repeat (first | apply Kd.R_alloc | apply Kd.R_drewN | apply Kd.R_drew));exact HO_317002.out⟩,⟨by (try simp only [hl6_1]);(with_reducible repeat (first | refine blk_drewN ?_ _ | refine blk_drew ?_ | refine blk_alloc ?_ _));exact BK305.out⟩,⟨by (try simp only [hl6_1]);(with_reducible repeat (first | refine blk_drewN ?_ _ | refine blk_drew ?_ | refine blk_alloc ?_ _));exact BK316.out⟩,⟨by repeat (first | (with_reducible first | exact HB.out | apply below_alloc | apply pw_below_drewN | apply below_drew1 | refine below_set ?_ GE305.out | refine below_set ?_ GE316.out) | exact HB.out)⟩⟩
         ·rw [if_neg c37] at H
          exact absurd H (by simp)
        ·rw [if_neg c36] at H
         have c36b0 : decide (x12_2 < (x317001_2.length : Int)) = false:=decide_eq_false c36
         clear c36
         replace H:=Option.bind_eq_some_iff.mp H
         obtain ⟨⟨t319,t320,t323,t326,t327,t328⟩,A440,H⟩:=H
         replace H : ((wigwagref17_Same.f k2 t295 x306001_2 x306002_1 t302 t303 t319 t320 t323 t326 t327).bind fun t330 => (if t288 = true then (if t330 = true then (some ((strOfNums x6_1).toList == (strOfNums l0).toList)) else (some false)) else (some false))) = some r:=H
         have A44:=Aside0.mk A440
         clear A440
         replace H:=Option.bind_eq_some_iff.mp H
         obtain ⟨t330,A450,H⟩:=H
         replace H : (if t288 = true then (if t330 = true then (some ((strOfNums x6_1).toList == (strOfNums l0).toList)) else (some false)) else (some false)) = some r:=H
         have A45:=Aside0.mk A450
         clear A450
         have HS46:=Aside0.mk H
         clear H
         have hnb47:=NB316_305.out
         have hnc47:=NB305_316.out
         have hcz48_0 : wr.cell? ⟨gb316,0,none⟩ = some (.int .u64 t306):=(blk_cell BK316.out 0).trans rfl
         have hcz48_1 : wr.cell? ⟨gb316,1,none⟩ = some (u317001):=(blk_cell BK316.out 1).trans rfl
         have hcz48_2 : wr.cell? ⟨gb316,2,none⟩ = some (.slice Ao35 x317002_1.length co35):=(blk_cell BK316.out 2).trans rfl
         have hcz48_3 : wr.cell? ⟨gb316,3,none⟩ = some (.bool t313):=(blk_cell BK316.out 3).trans rfl
         have hcz48_4 : wr.cell? ⟨gb316,4,none⟩ = some (.int .u64 t314):=(blk_cell BK316.out 4).trans rfl
         have hfz48_0:=blk_frozen BK316.out 0
         have hfz48_1:=blk_frozen BK316.out 1
         have hfz48_2:=blk_frozen BK316.out 2
         have hfz48_3:=blk_frozen BK316.out 3
         have hfz48_4:=blk_frozen BK316.out 4
         obtain ⟨Ao49,co49,eo49⟩:=Kd.R_slice HO_317001.out
         subst eo49
         go_upto_region 17 with (first | ((with_reducible refine gate_callee (f:=10) rfl ?_);refine goesL_ (some 66) rfl rfl Try.func10 (by kernel_rfl) rfl #[.agg #[.int .u64 0,.slice none 0 0,.slice none 0 0,.bool false,.int .u64 0],.int .u64 (IntKind.u64.wrap (a1)),.slice Ao13 x6_1.length co13,.bool false] rfl (by (try simp only [List.map_toArray,List.map_cons,List.map_nil]);first | done | rfl | (simp only [List.length_drop,List.length_take];rfl)) ?_;(refine (gather_Put.calls k2 0 _ _ ([] : List (S41)) _ _ ([] : List Int) false 0 (IntKind.u64.wrap (a1)) _ _ x6_1 false t319 t320 t323 t326 t327 t328 _ ?side1 ?side2 ?side3 ?side4 ?side5 ?side6 A44.out).mono ?_);(case side1 => exact Kd.C_nil _ _);(case side2 => exact Nat.le_refl _);(case side3 => exact Kd.C_nil _ _);(case side4 => exact Nat.le_refl _);(case side5 => repeat (first | exact (Kd.R_reads' HO_6.out).2.2 | (with_reducible refine Kd.C_alloc ?_ _) | (with_reducible refine Kd.C_drewN ?_ _) | (with_reducible refine Kd.C_drew ?_)));(case side6 => exact (Kd.R_reads' HO_6.out).2.1);rintro e w50 ⟨v321,v324,rfl,ho0,ho1,hb⟩;refine ⟨_,rfl,?_⟩;have n0_:=Aside0.mk (Kd.R_elder' (by (with_reducible repeat (first | apply Kd.R_alloc | apply Kd.R_drewN | apply Kd.R_drew));exact HO_6.out) (Kd.R_base ho1) hb);have n1_:=Aside0.mk (Kd.R_elder' (by (with_reducible repeat (first | apply Kd.R_alloc | apply Kd.R_drewN | apply Kd.R_drew));exact HO_306001.out) (Kd.R_base ho0) hb);have n2_:=Aside0.mk (Kd.R_elder' (by (with_reducible repeat (first | apply Kd.R_alloc | apply Kd.R_drewN | apply Kd.R_drew));exact HO_306002.out) (Kd.R_base ho1) hb);have n3_:=Aside0.mk (Kd.R_elder' (by (with_reducible repeat (first | apply Kd.R_alloc | apply Kd.R_drewN | apply Kd.R_drew));exact HO_317001.out) (Kd.R_base ho0) hb);have n4_:=Aside0.mk (Kd.R_elder' (by (with_reducible repeat (first | apply Kd.R_alloc | apply Kd.R_drewN | apply Kd.R_drew));exact HO_317002.out) (Kd.R_base ho1) hb);have n5_:=Aside0.mk (Kd.R_lower (Kd.R_new' (Kd.R_new' ho0 (Kd.R_lt (by (with_reducible repeat (first | apply Kd.R_alloc | apply Kd.R_drewN | apply Kd.R_drew));exact HO_306001.out))) (Kd.R_lt (by (with_reducible repeat (first | apply Kd.R_alloc | apply Kd.R_drewN | apply Kd.R_drew));exact HO_317001.out))) (below_size (by repeat (first | (with_reducible first | exact HB.out | apply below_alloc | apply pw_below_drewN | apply below_drew1 | refine below_set ?_ GE305.out | refine below_set ?_ GE316.out) | exact HB.out))));have n6_:=Aside0.mk (Kd.R_lower (Kd.R_new' (Kd.R_new' (Kd.R_new' ho1 (Kd.R_lt (by (with_reducible repeat (first | apply Kd.R_alloc | apply Kd.R_drewN | apply Kd.R_drew));exact HO_6.out))) (Kd.R_lt (by (with_reducible repeat (first | apply Kd.R_alloc | apply Kd.R_drewN | apply Kd.R_drew));exact HO_306002.out))) (Kd.R_lt (by (with_reducible repeat (first | apply Kd.R_alloc | apply Kd.R_drewN | apply Kd.R_drew));exact HO_317002.out))) (below_size (by repeat (first | (with_reducible first | exact HB.out | apply below_alloc | apply pw_below_drewN | apply below_drew1 | refine below_set ?_ GE305.out | refine below_set ?_ GE316.out) | exact HB.out))));have n7_:=Aside0.mk (blk_below (g:=gb305) (o:=.cells #[.int .u64 t295,u306001,u306002,.bool t302,.int .u64 t303] 28 (0,0)) (by (with_reducible repeat (first | refine blk_drewN ?_ _ | refine blk_drew ?_ | refine blk_alloc ?_ _));exact BK305.out) hb);have n8_:=Aside0.mk (blk_below (g:=gb316) (o:=.cells #[.int .u64 t306,.slice Ao49 x317001_2.length co49,.slice Ao35 x317002_1.length co35,.bool t313,.int .u64 t314] 28 (0,0)) (by (with_reducible repeat (first | refine blk_drewN ?_ _ | refine blk_drew ?_ | refine blk_alloc ?_ _));exact BK316.out) hb);have n9_:=Aside0.mk (below_step (by repeat (first | (with_reducible first | exact HB.out | apply below_alloc | apply pw_below_drewN | apply below_drew1 | refine below_set ?_ GE305.out | refine below_set ?_ GE316.out) | exact HB.out)) hb);clear HO_6;clear HO_306001;clear HO_306002;clear HO_317001;clear HO_317002;clear BK305;clear BK316;clear HB;have HO_6:=n0_;have HO_306001:=n1_;have HO_306002:=n2_;have HO_317001:=n3_;have HO_317002:=n4_;have HO322:=n5_;have HO325:=n6_;have BK305:=n7_;have BK316:=n8_;have HB:=n9_;clear n0_ n1_ n2_ n3_ n4_ n5_ n6_ n7_ n8_ n9_;(try clear hb);(try clear hb2);(try clear hk);(try clear hi);(try clear ho0);(try clear ho1)) | ((with_reducible refine gate_dst (N:=13) rfl ?_);refine box_event ?hg (N:=13) ?hd (cs:=#[.int .u64 0,.slice none 0 0,.slice none 0 0,.bool false,.int .u64 0]) (t:=28) ?hr ?_;(case hd => rfl);(case hg => rfl);(case hr => first | (go_simp;done) | (go_simp;rfl));intro gb329 hg w51 hbox hb;have n0_:=Aside0.mk (Kd.R_below (by (with_reducible repeat (first | apply Kd.R_alloc | apply Kd.R_drewN | apply Kd.R_drew));exact HO_6.out) hb);have n1_:=Aside0.mk (Kd.R_below (by (with_reducible repeat (first | apply Kd.R_alloc | apply Kd.R_drewN | apply Kd.R_drew));exact HO_306001.out) hb);have n2_:=Aside0.mk (Kd.R_below (by (with_reducible repeat (first | apply Kd.R_alloc | apply Kd.R_drewN | apply Kd.R_drew));exact HO_306002.out) hb);have n3_:=Aside0.mk (Kd.R_below (by (with_reducible repeat (first | apply Kd.R_alloc | apply Kd.R_drewN | apply Kd.R_drew));exact HO_317001.out) hb);have n4_:=Aside0.mk (Kd.R_below (by (with_reducible repeat (first | apply Kd.R_alloc | apply Kd.R_drewN | apply Kd.R_drew));exact HO_317002.out) hb);have n5_:=Aside0.mk (Kd.R_below (by (with_reducible repeat (first | apply Kd.R_alloc | apply Kd.R_drewN | apply Kd.R_drew));exact HO322.out) hb);have n6_:=Aside0.mk (Kd.R_below (by (with_reducible repeat (first | apply Kd.R_alloc | apply Kd.R_drewN | apply Kd.R_drew));exact HO325.out) hb);have n7_:=Aside0.mk (blk_below (g:=gb305) (o:=.cells #[.int .u64 t295,u306001,u306002,.bool t302,.int .u64 t303] 28 (0,0)) (by (with_reducible repeat (first | refine blk_drewN ?_ _ | refine blk_drew ?_ | refine blk_alloc ?_ _));exact BK305.out) hb);have n8_:=Aside0.mk (blk_below (g:=gb316) (o:=.cells #[.int .u64 t306,.slice Ao49 x317001_2.length co49,.slice Ao35 x317002_1.length co35,.bool t313,.int .u64 t314] 28 (0,0)) (by (with_reducible repeat (first | refine blk_drewN ?_ _ | refine blk_drew ?_ | refine blk_alloc ?_ _));exact BK316.out) hb);have n9_:=Aside0.mk (below_step (by repeat (first | (with_reducible first | exact HB.out | apply below_alloc | apply pw_below_drewN | apply below_drew1 | refine below_set ?_ GE305.out | refine below_set ?_ GE316.out) | exact HB.out)) hb);have n10_:=Aside0.mk (hbox);have n11_:=Aside0.mk ((by rw [hg];exact (below_size (by repeat (first | (with_reducible first | exact HB.out | apply below_alloc | apply pw_below_drewN | apply below_drew1 | refine below_set ?_ GE305.out | refine below_set ?_ GE316.out) | exact HB.out))) : w.heap.size ≤ gb329));have n12_:=Aside0.mk ((by rw [hg];exact (below_size (by repeat (first | (with_reducible first | exact HB.out | apply below_alloc | apply pw_below_drewN | apply below_drew1 | refine below_set ?_ GE305.out | refine below_set ?_ GE316.out) | exact HB.out))) : w.heap.size ≤ gb329));have n13_:=Aside0.mk ((by rw [hg];exact Nat.ne_of_lt (blk_lt (g:=gb305) (o:=.cells #[.int .u64 t295,u306001,u306002,.bool t302,.int .u64 t303] 28 (0,0)) (by (with_reducible repeat (first | refine blk_drewN ?_ _ | refine blk_drew ?_ | refine blk_alloc ?_ _));exact BK305.out)) : gb305 ≠ gb329));have n14_:=Aside0.mk ((by rw [hg];exact Nat.ne_of_gt (blk_lt (g:=gb305) (o:=.cells #[.int .u64 t295,u306001,u306002,.bool t302,.int .u64 t303] 28 (0,0)) (by (with_reducible repeat (first | refine blk_drewN ?_ _ | refine blk_drew ?_ | refine blk_alloc ?_ _));exact BK305.out)) : gb329 ≠ gb305));have n15_:=Aside0.mk ((by rw [hg];exact Nat.ne_of_lt (blk_lt (g:=gb316) (o:=.cells #[.int .u64 t306,.slice Ao49 x317001_2.length co49,.slice Ao35 x317002_1.length co35,.bool t313,.int .u64 t314] 28 (0,0)) (by (with_reducible repeat (first | refine blk_drewN ?_ _ | refine blk_drew ?_ | refine blk_alloc ?_ _));exact BK316.out)) : gb316 ≠ gb329));have n16_:=Aside0.mk ((by rw [hg];exact Nat.ne_of_gt (blk_lt (g:=gb316) (o:=.cells #[.int .u64 t306,.slice Ao49 x317001_2.length co49,.slice Ao35 x317002_1.length co35,.bool t313,.int .u64 t314] 28 (0,0)) (by (with_reducible repeat (first | refine blk_drewN ?_ _ | refine blk_drew ?_ | refine blk_alloc ?_ _));exact BK316.out)) : gb329 ≠ gb316));clear HO_6;clear HO_306001;clear HO_306002;clear HO_317001;clear HO_317002;clear HO322;clear HO325;clear BK305;clear BK316;clear HB;have HO_6:=n0_;have HO_306001:=n1_;have HO_306002:=n2_;have HO_317001:=n3_;have HO_317002:=n4_;have HO322:=n5_;have HO325:=n6_;have BK305:=n7_;have BK316:=n8_;have HB:=n9_;have BK329:=n10_;have GW329:=n11_;have GE329:=n12_;have NB305_329:=n13_;have NB329_305:=n14_;have NB316_329:=n15_;have NB329_316:=n16_;clear n0_ n1_ n2_ n3_ n4_ n5_ n6_ n7_ n8_ n9_ n10_ n11_ n12_ n13_ n14_ n15_ n16_;clear hb hbox hg;have hnb52:=NB329_305.out;have hnc52:=NB305_329.out;have hnb53:=NB329_316.out;have hnc53:=NB316_329.out;have hcz54_0 : w51.cell? ⟨gb329,0,none⟩ = some (.int .u64 0):=(blk_cell BK329.out 0).trans rfl;have hcz54_1 : w51.cell? ⟨gb329,1,none⟩ = some (.slice none 0 0):=(blk_cell BK329.out 1).trans rfl;have hcz54_2 : w51.cell? ⟨gb329,2,none⟩ = some (.slice none 0 0):=(blk_cell BK329.out 2).trans rfl;have hcz54_3 : w51.cell? ⟨gb329,3,none⟩ = some (.bool false):=(blk_cell BK329.out 3).trans rfl;have hcz54_4 : w51.cell? ⟨gb329,4,none⟩ = some (.int .u64 0):=(blk_cell BK329.out 4).trans rfl;have hfz54_0:=blk_frozen BK329.out 0;have hfz54_1:=blk_frozen BK329.out 1;have hfz54_2:=blk_frozen BK329.out 2;have hfz54_3:=blk_frozen BK329.out 3;have hfz54_4:=blk_frozen BK329.out 4;obtain ⟨Ao55,co55,eo55⟩:=Kd.R_slice HO322.out;subst eo55;obtain ⟨Ao56,co56,eo56⟩:=Kd.R_slice HO325.out;subst eo56;have hcz57_0 : w51.cell? ⟨gb305,0,none⟩ = some (.int .u64 t295):=(blk_cell BK305.out 0).trans rfl;have hcz57_1 : w51.cell? ⟨gb305,1,none⟩ = some (u306001):=(blk_cell BK305.out 1).trans rfl;have hcz57_2 : w51.cell? ⟨gb305,2,none⟩ = some (u306002):=(blk_cell BK305.out 2).trans rfl;have hcz57_3 : w51.cell? ⟨gb305,3,none⟩ = some (.bool t302):=(blk_cell BK305.out 3).trans rfl;have hcz57_4 : w51.cell? ⟨gb305,4,none⟩ = some (.int .u64 t303):=(blk_cell BK305.out 4).trans rfl;have hfz57_0:=blk_frozen BK305.out 0;have hfz57_1:=blk_frozen BK305.out 1;have hfz57_2:=blk_frozen BK305.out 2;have hfz57_3:=blk_frozen BK305.out 3;have hfz57_4:=blk_frozen BK305.out 4;obtain ⟨Ao58,co58,eo58⟩:=Kd.R_slice HO_306001.out;subst eo58;obtain ⟨Ao59,co59,eo59⟩:=Kd.R_slice HO_306002.out;subst eo59) | ((with_reducible refine gate_callee (f:=14) rfl ?_);refine goesL_ (some 71) rfl rfl Try.func14 (by kernel_rfl) rfl #[.agg #[.int .u64 t295,.slice Ao58 x306001_2.length co58,.slice Ao59 x306002_1.length co59,.bool t302,.int .u64 t303],.agg #[.int .u64 t319,.slice Ao55 t320.length co55,.slice Ao56 t323.length co56,.bool t326,.int .u64 t327]] rfl (by (try simp only [List.map_toArray,List.map_cons,List.map_nil]);first | done | rfl | (simp only [List.length_drop,List.length_take];rfl)) ?_;(with_reducible refine (wigwagref17_Same.calls k2 t295 _ _ x306001_2 _ _ x306002_1 t302 t303 t319 _ _ t320 _ _ t323 t326 t327 t330 _ ?side1 ?side2 ?side3 ?side4 ?side5 ?side6 ?side7 ?side8 A45.out).mono ?_);(case side1 => refine (Kd.R_reads' (e:=41) (base:=w.heap.size) (ok:=fun k_ => (some k_ ≠ (.slice Ao49 x317001_2.length co49 : Value).ownBlock ∧ some k_ ≠ (.slice Ao55 t320.length co55 : Value).ownBlock)) (n:=x306001_2.length) (c:=co58) ?_).2.2;exact (by (with_reducible repeat (first | apply Kd.R_alloc | apply Kd.R_drewN | apply Kd.R_drew));exact (Kd.R_mono (Kd.R_far (p:=⟨gb329,4,none⟩) (Kd.R_far (p:=⟨gb329,3,none⟩) (Kd.R_far (p:=⟨gb329,2,none⟩) (Kd.R_far (p:=⟨gb329,1,none⟩) (Kd.R_far (p:=⟨gb329,0,none⟩) (Kd.R_types HO_306001.out BK329.out (by decide)) (fun _ hk => hk.2) (.int .u64 t319)) (fun _ hk => hk.2) (.slice Ao55 t320.length co55)) (fun _ hk => hk.2) (.slice Ao56 t323.length co56)) (fun _ hk => hk.2) (.bool t326)) (fun _ hk => hk.2) (.int .u64 t327)) (fun _ h_ => h_.1))));(case side2 => exact (Kd.R_reads' HO_306001.out).2.1);(case side3 => refine (Kd.R_reads' (e:=5) (base:=w.heap.size) (ok:=fun k_ => ((some k_ ≠ (.slice Ao13 x6_1.length co13 : Value).ownBlock ∧ some k_ ≠ (.slice Ao35 x317002_1.length co35 : Value).ownBlock) ∧ some k_ ≠ (.slice Ao56 t323.length co56 : Value).ownBlock)) (n:=x306002_1.length) (c:=co59) ?_).2.2;exact (by (with_reducible repeat (first | apply Kd.R_alloc | apply Kd.R_drewN | apply Kd.R_drew));exact (Kd.R_mono (Kd.R_far (p:=⟨gb329,4,none⟩) (Kd.R_far (p:=⟨gb329,3,none⟩) (Kd.R_far (p:=⟨gb329,2,none⟩) (Kd.R_far (p:=⟨gb329,1,none⟩) (Kd.R_far (p:=⟨gb329,0,none⟩) (Kd.R_types HO_306002.out BK329.out (by decide)) (fun _ hk => hk.2) (.int .u64 t319)) (fun _ hk => hk.2) (.slice Ao55 t320.length co55)) (fun _ hk => hk.2) (.slice Ao56 t323.length co56)) (fun _ hk => hk.2) (.bool t326)) (fun _ hk => hk.2) (.int .u64 t327)) (fun _ h_ => h_.1))));(case side4 => exact (Kd.R_reads' HO_306002.out).2.1);(case side5 => refine (Kd.R_reads' (e:=41) (base:=w.heap.size) (ok:=fun k_ => ((True ∧ some k_ ≠ (.slice Ao58 x306001_2.length co58 : Value).ownBlock) ∧ some k_ ≠ (.slice Ao49 x317001_2.length co49 : Value).ownBlock)) (n:=t320.length) (c:=co55) ?_).2.2;exact (by (with_reducible repeat (first | apply Kd.R_alloc | apply Kd.R_drewN | apply Kd.R_drew));exact (Kd.R_mono (Kd.R_far (p:=⟨gb329,4,none⟩) (Kd.R_far (p:=⟨gb329,3,none⟩) (Kd.R_far (p:=⟨gb329,2,none⟩) (Kd.R_far (p:=⟨gb329,1,none⟩) (Kd.R_far (p:=⟨gb329,0,none⟩) (Kd.R_types HO322.out BK329.out (by decide)) (fun _ hk => hk.2) (.int .u64 t319)) (fun _ hk => hk.2) (.slice Ao55 t320.length co55)) (fun _ hk => hk.2) (.slice Ao56 t323.length co56)) (fun _ hk => hk.2) (.bool t326)) (fun _ hk => hk.2) (.int .u64 t327)) (fun _ h_ => h_.1))));(case side6 => exact (Kd.R_reads' HO322.out).2.1);(case side7 => refine (Kd.R_reads' (e:=5) (base:=w.heap.size) (ok:=fun k_ => (((True ∧ some k_ ≠ (.slice Ao13 x6_1.length co13 : Value).ownBlock) ∧ some k_ ≠ (.slice Ao59 x306002_1.length co59 : Value).ownBlock) ∧ some k_ ≠ (.slice Ao35 x317002_1.length co35 : Value).ownBlock)) (n:=t323.length) (c:=co56) ?_).2.2;exact (by (with_reducible repeat (first | apply Kd.R_alloc | apply Kd.R_drewN | apply Kd.R_drew));exact (Kd.R_mono (Kd.R_far (p:=⟨gb329,4,none⟩) (Kd.R_far (p:=⟨gb329,3,none⟩) (Kd.R_far (p:=⟨gb329,2,none⟩) (Kd.R_far (p:=⟨gb329,1,none⟩) (Kd.R_far (p:=⟨gb329,0,none⟩) (Kd.R_types HO325.out BK329.out (by decide)) (fun _ hk => hk.2) (.int .u64 t319)) (fun _ hk => hk.2) (.slice Ao55 t320.length co55)) (fun _ hk => hk.2) (.slice Ao56 t323.length co56)) (fun _ hk => hk.2) (.bool t326)) (fun _ hk => hk.2) (.int .u64 t327)) (fun _ h_ => h_.1))));(case side8 => exact (Kd.R_reads' HO325.out).2.1);rintro e w60 ⟨rfl,hb⟩;refine ⟨_,rfl,?_⟩;have n0_:=Aside0.mk (Kd.R_below (by (with_reducible repeat (first | apply Kd.R_alloc | apply Kd.R_drewN | apply Kd.R_drew));exact (Kd.R_mono (Kd.R_far (p:=⟨gb329,4,none⟩) (Kd.R_far (p:=⟨gb329,3,none⟩) (Kd.R_far (p:=⟨gb329,2,none⟩) (Kd.R_far (p:=⟨gb329,1,none⟩) (Kd.R_far (p:=⟨gb329,0,none⟩) (Kd.R_types HO_6.out BK329.out (by decide)) (fun _ hk => hk.2) (.int .u64 t319)) (fun _ hk => hk.2) (.slice Ao55 t320.length co55)) (fun _ hk => hk.2) (.slice Ao56 t323.length co56)) (fun _ hk => hk.2) (.bool t326)) (fun _ hk => hk.2) (.int .u64 t327)) (fun _ h_ => h_.1))) hb);have n1_:=Aside0.mk (Kd.R_below (by (with_reducible repeat (first | apply Kd.R_alloc | apply Kd.R_drewN | apply Kd.R_drew));exact (Kd.R_mono (Kd.R_far (p:=⟨gb329,4,none⟩) (Kd.R_far (p:=⟨gb329,3,none⟩) (Kd.R_far (p:=⟨gb329,2,none⟩) (Kd.R_far (p:=⟨gb329,1,none⟩) (Kd.R_far (p:=⟨gb329,0,none⟩) (Kd.R_types HO_306001.out BK329.out (by decide)) (fun _ hk => hk.2) (.int .u64 t319)) (fun _ hk => hk.2) (.slice Ao55 t320.length co55)) (fun _ hk => hk.2) (.slice Ao56 t323.length co56)) (fun _ hk => hk.2) (.bool t326)) (fun _ hk => hk.2) (.int .u64 t327)) (fun _ h_ => h_.1))) hb);have n2_:=Aside0.mk (Kd.R_below (by (with_reducible repeat (first | apply Kd.R_alloc | apply Kd.R_drewN | apply Kd.R_drew));exact (Kd.R_mono (Kd.R_far (p:=⟨gb329,4,none⟩) (Kd.R_far (p:=⟨gb329,3,none⟩) (Kd.R_far (p:=⟨gb329,2,none⟩) (Kd.R_far (p:=⟨gb329,1,none⟩) (Kd.R_far (p:=⟨gb329,0,none⟩) (Kd.R_types HO_306002.out BK329.out (by decide)) (fun _ hk => hk.2) (.int .u64 t319)) (fun _ hk => hk.2) (.slice Ao55 t320.length co55)) (fun _ hk => hk.2) (.slice Ao56 t323.length co56)) (fun _ hk => hk.2) (.bool t326)) (fun _ hk => hk.2) (.int .u64 t327)) (fun _ h_ => h_.1))) hb);have n3_:=Aside0.mk (Kd.R_below (by (with_reducible repeat (first | apply Kd.R_alloc | apply Kd.R_drewN | apply Kd.R_drew));exact (Kd.R_mono (Kd.R_far (p:=⟨gb329,4,none⟩) (Kd.R_far (p:=⟨gb329,3,none⟩) (Kd.R_far (p:=⟨gb329,2,none⟩) (Kd.R_far (p:=⟨gb329,1,none⟩) (Kd.R_far (p:=⟨gb329,0,none⟩) (Kd.R_types HO_317001.out BK329.out (by decide)) (fun _ hk => hk.2) (.int .u64 t319)) (fun _ hk => hk.2) (.slice Ao55 t320.length co55)) (fun _ hk => hk.2) (.slice Ao56 t323.length co56)) (fun _ hk => hk.2) (.bool t326)) (fun _ hk => hk.2) (.int .u64 t327)) (fun _ h_ => h_.1))) hb);have n4_:=Aside0.mk (Kd.R_below (by (with_reducible repeat (first | apply Kd.R_alloc | apply Kd.R_drewN | apply Kd.R_drew));exact (Kd.R_mono (Kd.R_far (p:=⟨gb329,4,none⟩) (Kd.R_far (p:=⟨gb329,3,none⟩) (Kd.R_far (p:=⟨gb329,2,none⟩) (Kd.R_far (p:=⟨gb329,1,none⟩) (Kd.R_far (p:=⟨gb329,0,none⟩) (Kd.R_types HO_317002.out BK329.out (by decide)) (fun _ hk => hk.2) (.int .u64 t319)) (fun _ hk => hk.2) (.slice Ao55 t320.length co55)) (fun _ hk => hk.2) (.slice Ao56 t323.length co56)) (fun _ hk => hk.2) (.bool t326)) (fun _ hk => hk.2) (.int .u64 t327)) (fun _ h_ => h_.1))) hb);have n5_:=Aside0.mk (Kd.R_below (by (with_reducible repeat (first | apply Kd.R_alloc | apply Kd.R_drewN | apply Kd.R_drew));exact (Kd.R_mono (Kd.R_far (p:=⟨gb329,4,none⟩) (Kd.R_far (p:=⟨gb329,3,none⟩) (Kd.R_far (p:=⟨gb329,2,none⟩) (Kd.R_far (p:=⟨gb329,1,none⟩) (Kd.R_far (p:=⟨gb329,0,none⟩) (Kd.R_types HO322.out BK329.out (by decide)) (fun _ hk => hk.2) (.int .u64 t319)) (fun _ hk => hk.2) (.slice Ao55 t320.length co55)) (fun _ hk => hk.2) (.slice Ao56 t323.length co56)) (fun _ hk => hk.2) (.bool t326)) (fun _ hk => hk.2) (.int .u64 t327)) (fun _ h_ => h_.1))) hb);have n6_:=Aside0.mk (Kd.R_below (by (with_reducible repeat (first | apply Kd.R_alloc | apply Kd.R_drewN | apply Kd.R_drew));exact (Kd.R_mono (Kd.R_far (p:=⟨gb329,4,none⟩) (Kd.R_far (p:=⟨gb329,3,none⟩) (Kd.R_far (p:=⟨gb329,2,none⟩) (Kd.R_far (p:=⟨gb329,1,none⟩) (Kd.R_far (p:=⟨gb329,0,none⟩) (Kd.R_types HO325.out BK329.out (by decide)) (fun _ hk => hk.2) (.int .u64 t319)) (fun _ hk => hk.2) (.slice Ao55 t320.length co55)) (fun _ hk => hk.2) (.slice Ao56 t323.length co56)) (fun _ hk => hk.2) (.bool t326)) (fun _ hk => hk.2) (.int .u64 t327)) (fun _ h_ => h_.1))) hb);have n7_:=Aside0.mk (blk_below (g:=gb305) (o:=.cells #[.int .u64 t295,.slice Ao58 x306001_2.length co58,.slice Ao59 x306002_1.length co59,.bool t302,.int .u64 t303] 28 (0,0)) (by (with_reducible repeat (first | refine blk_drewN ?_ _ | refine blk_drew ?_ | refine blk_alloc ?_ _));refine blk_far ?_ NB305_329.out _;(with_reducible repeat (first | refine blk_drewN ?_ _ | refine blk_drew ?_ | refine blk_alloc ?_ _));refine blk_far ?_ NB305_329.out _;(with_reducible repeat (first | refine blk_drewN ?_ _ | refine blk_drew ?_ | refine blk_alloc ?_ _));refine blk_far ?_ NB305_329.out _;(with_reducible repeat (first | refine blk_drewN ?_ _ | refine blk_drew ?_ | refine blk_alloc ?_ _));refine blk_far ?_ NB305_329.out _;(with_reducible repeat (first | refine blk_drewN ?_ _ | refine blk_drew ?_ | refine blk_alloc ?_ _));refine blk_far ?_ NB305_329.out _;(with_reducible repeat (first | refine blk_drewN ?_ _ | refine blk_drew ?_ | refine blk_alloc ?_ _));exact BK305.out) hb);have n8_:=Aside0.mk (blk_below (g:=gb316) (o:=.cells #[.int .u64 t306,.slice Ao49 x317001_2.length co49,.slice Ao35 x317002_1.length co35,.bool t313,.int .u64 t314] 28 (0,0)) (by (with_reducible repeat (first | refine blk_drewN ?_ _ | refine blk_drew ?_ | refine blk_alloc ?_ _));refine blk_far ?_ NB316_329.out _;(with_reducible repeat (first | refine blk_drewN ?_ _ | refine blk_drew ?_ | refine blk_alloc ?_ _));refine blk_far ?_ NB316_329.out _;(with_reducible repeat (first | refine blk_drewN ?_ _ | refine blk_drew ?_ | refine blk_alloc ?_ _));refine blk_far ?_ NB316_329.out _;(with_reducible repeat (first | refine blk_drewN ?_ _ | refine blk_drew ?_ | refine blk_alloc ?_ _));refine blk_far ?_ NB316_329.out _;(with_reducible repeat (first | refine blk_drewN ?_ _ | refine blk_drew ?_ | refine blk_alloc ?_ _));refine blk_far ?_ NB316_329.out _;(with_reducible repeat (first | refine blk_drewN ?_ _ | refine blk_drew ?_ | refine blk_alloc ?_ _));exact BK316.out) hb);have n9_:=Aside0.mk (blk_below (g:=gb329) (o:=.cells #[.int .u64 t319,.slice Ao55 t320.length co55,.slice Ao56 t323.length co56,.bool t326,.int .u64 t327] 28 (0,0)) (by (with_reducible repeat (first | refine blk_drewN ?_ _ | refine blk_drew ?_ | refine blk_alloc ?_ _));refine blk_put (cs:=#[.int .u64 t319,.slice Ao55 t320.length co55,.slice Ao56 t323.length co56,.bool t326,.int .u64 0]) ?_ 4 _ rfl;(with_reducible repeat (first | refine blk_drewN ?_ _ | refine blk_drew ?_ | refine blk_alloc ?_ _));refine blk_put (cs:=#[.int .u64 t319,.slice Ao55 t320.length co55,.slice Ao56 t323.length co56,.bool false,.int .u64 0]) ?_ 3 _ rfl;(with_reducible repeat (first | refine blk_drewN ?_ _ | refine blk_drew ?_ | refine blk_alloc ?_ _));refine blk_put (cs:=#[.int .u64 t319,.slice Ao55 t320.length co55,.slice none 0 0,.bool false,.int .u64 0]) ?_ 2 _ rfl;(with_reducible repeat (first | refine blk_drewN ?_ _ | refine blk_drew ?_ | refine blk_alloc ?_ _));refine blk_put (cs:=#[.int .u64 t319,.slice none 0 0,.slice none 0 0,.bool false,.int .u64 0]) ?_ 1 _ rfl;(with_reducible repeat (first | refine blk_drewN ?_ _ | refine blk_drew ?_ | refine blk_alloc ?_ _));refine blk_put (cs:=#[.int .u64 0,.slice none 0 0,.slice none 0 0,.bool false,.int .u64 0]) ?_ 0 _ rfl;(with_reducible repeat (first | refine blk_drewN ?_ _ | refine blk_drew ?_ | refine blk_alloc ?_ _));exact BK329.out) hb);have n10_:=Aside0.mk (below_step (by repeat (first | (with_reducible first | exact HB.out | apply below_alloc | apply pw_below_drewN | apply below_drew1 | refine below_set ?_ GE305.out | refine below_set ?_ GE316.out | refine below_set ?_ GE329.out) | exact HB.out)) hb);clear HO_6;clear HO_306001;clear HO_306002;clear HO_317001;clear HO_317002;clear HO322;clear HO325;clear BK305;clear BK316;clear BK329;clear HB;have HO_6:=n0_;have HO_306001:=n1_;have HO_306002:=n2_;have HO_317001:=n3_;have HO_317002:=n4_;have HO322:=n5_;have HO325:=n6_;have BK305:=n7_;have BK316:=n8_;have BK329:=n9_;have HB:=n10_;clear n0_ n1_ n2_ n3_ n4_ n5_ n6_ n7_ n8_ n9_ n10_;(try clear hb);(try clear hb2);(try clear hk);(try clear hi)))
         (try simp only [Act.put,List.setIfInBounds_toArray,List.set_cons_zero,List.set_cons_succ])
         have H:=HS46.out
         clear HS46
         by_cases c61 : t288 = true
         ·subst c61
          have H1 : (if t330 = true then (some ((strOfNums x6_1).toList == (strOfNums l0).toList)) else (some false)) = some r:=by rw [if_pos rfl] at H;exact H
          clear H
          have H:=H1
          clear H1
          by_cases c62 : t330 = true
          ·subst c62
           have H1 : (some ((strOfNums x6_1).toList == (strOfNums l0).toList)) = some r:=by rw [if_pos rfl] at H;exact H
           clear H
           have H:=H1
           clear H1
           obtain rfl:=Option.some.inj H
           have hcv63:=own_string (P:=Try.prog) Try.underlying23 Try.underlying5 Try.underlying9 (Kd.own_of_R HO_6.out)
           have hcv64:=Kd.C_string (P:=Try.prog) (A:=A0) (c:=c0) Try.underlying23 Try.underlying5 Try.underlying9 (Kd.C_below HR0.out HB.out)
           go_wp2
           go_ret
           exact ⟨by first | rfl | (simp [errW_none,errW_some] <;> rfl) | (simp [*,errW_none,errW_some] <;> rfl),by repeat (first | (with_reducible first | exact HB.out | apply below_alloc | apply pw_below_drewN | apply below_drew1 | refine below_set ?_ GE305.out | refine below_set ?_ GE316.out | refine below_set ?_ GE329.out) | exact HB.out)⟩
          ·replace c62:=Bool.eq_false_iff.mpr c62
           subst c62
           have H1 : (some false) = some r:=by rw [if_neg (show ¬ (false = true) by decide)] at H;exact H
           clear H
           have H:=H1
           clear H1
           obtain rfl:=Option.some.inj H
           go_wp2
           go_ret
           exact ⟨by first | rfl | (simp [errW_none,errW_some] <;> rfl) | (simp [*,errW_none,errW_some] <;> rfl),by repeat (first | (with_reducible first | exact HB.out | apply below_alloc | apply pw_below_drewN | apply below_drew1 | refine below_set ?_ GE305.out | refine below_set ?_ GE316.out | refine below_set ?_ GE329.out) | exact HB.out)⟩
         ·replace c61:=Bool.eq_false_iff.mpr c61
          subst c61
          have H1 : (some false) = some r:=by rw [if_neg (show ¬ (false = true) by decide)] at H;exact H
          clear H
          have H:=H1
          clear H1
          obtain rfl:=Option.some.inj H
          go_wp2
          go_ret
          exact ⟨by first | rfl | (simp [errW_none,errW_some] <;> rfl) | (simp [*,errW_none,errW_some] <;> rfl),by repeat (first | (with_reducible first | exact HB.out | apply below_alloc | apply pw_below_drewN | apply below_drew1 | refine below_set ?_ GE305.out | refine below_set ?_ GE316.out | refine below_set ?_ GE329.out) | exact HB.out)⟩
  ·rw [if_neg c6] at H
   exact absurd H (by simp)

/-- THE ONE PURE STATEMENT of wigwaglaw17_GatherOwn: yours. -/
def wigwaglaw17_GatherOwn.Pure : Prop:=∀ (l0 : List Int) (a1 : Int),l0.length ≤ maxLen → l0.length * 1 ≤ 140737488351232 → (∀ x ∈ l0,(Lit.int .u8 x).wf = true) → (Lit.int .u16 a1).wf = true → ∃ k,wigwaglaw17_GatherOwn.f k l0 a1 = some true
theorem wigwaglaw17_GatherOwn.walk (P : wigwaglaw17_GatherOwn.Pure) (a0 : Option Addr) (len0 cap0 : Nat) (z0 : List Int) (a1 : Int) (w : World) (w0 : (a0 = none ∧ len0 = 0 ∧ cap0 = 0 ∧ z0 = []) ∨ ∃ x,a0 = some x ∧ len0 ≤ cap0 ∧ cap0 ≤ maxLen ∧ z0.length = cap0 ∧ (∀ i,i < z0.length → w.cell? (x.add i) = some (.int .u8 (z0.getD i 0))) ∧ ∀ n ∈ z0,(Lit.int .u8 n).wf = true) (y0 : len0 * 1 ≤ 140737488351232) (w1 : (Lit.int .u16 a1).wf = true) :
  Calls Try.prog 6 #[.slice a0 len0 cap0,.int .u16 a1] w fun e w' => e = .returned (.bool true) ∧ Below w.heap.size w w':=by
 obtain ⟨l0,rfl,hr0,hm0,hw0,hc0⟩:=ReadsInt.ofRowC w0
 obtain ⟨k,h⟩:=P l0 a1 hm0 y0 hw0 w1
 refine (wigwaglaw17_GatherOwn.calls k _ _ l0 a1 true w (Kd.C_of_reads (d:=(0 : Int)) (h1:=fun _ => rfl) hr0) hc0 h).mono ?_
 rintro e w' ⟨rfl,hd⟩
 exact ⟨rfl,hd⟩

end Go.Proofs.Ytndfddejdfnleaa.P
