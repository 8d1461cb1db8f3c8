-- Printed for this claim by xprint.py of this session: contracts of this session's own stand in for what the print does not take
import Derived.Test.YtgaccappklhojaaPx0
namespace Go.Proofs.Ytgaccappklhojaa.P
open Go.RowKit Go.Proofs.YtgaccappklhojaaW.PrintWords Go.Proofs.YtgaccappklhojaaW.PrintLast Go.Proofs.YtgaccappklhojaaW.PrintMore
attribute [local go_sem] max2_int min2_int max_two min_two max_three min_three max_four min_four   -- for this text's walks alone
set_option linter.unusedVariables false
set_option linter.unusedSimpArgs false

/-! ### span_Has_1: function 28 -/
def span_Has_1.f (a0_0 : Int) (a0_1 : Int) (a1 : Int) : Option (Bool):=if a0_0 ≤ a1 then (some (decide (a1 < a0_1))) else (some false)
set_option maxHeartbeats 8000000 in
set_option maxRecDepth 100000 in
theorem span_Has_1.calls (a0_0 : Int) (a0_1 : Int) (a1 : Int) (r : Bool) (w : World) {gx0 : Nat} (hbx0 : w.heap[gx0]? = some (.cells #[.int .u64 a1] 23 (0,0))) (h : span_Has_1.f a0_0 a0_1 a1 = some r) :
  Calls Try.prog 28 #[.agg #[.int .u64 a0_0,.int .u64 a0_1],.pointer (some ⟨gx0,0,none⟩)] w fun e w' => e = .returned (.bool r) ∧ Below w.heap.size w w':=by
 suffices hs_ : ∀ w3_ : World,Below w.heap.size w w3_ → w3_.heap[gx0]? = some (.cells #[.int .u64 a1] 23 (0,0)) → (Calls Try.prog 28 #[.agg #[.int .u64 a0_0,.int .u64 a0_1],.pointer (some ⟨gx0,0,none⟩)] w3_ fun e w' => e = .returned (.bool r) ∧ Below w.heap.size w w') from hs_ w (Below.refl _ _) hbx0
 clear hbx0
 intro wx_ hb_ hbox0_
 have hu25:=Try.underlying25
 have HB:=Aside0.mk (Below.refl w.heap.size w)
 have H : (if a0_0 ≤ a1 then (some (decide (a1 < a0_1))) else (some false)) = some r:=h
 clear h
 have HS3:=Aside0.mk H
 clear H
 revert gx0 wx_
 intro gb104 w4 hb hbox0
 clear HB
 have HB:=Aside0.mk hb
 have BK104:=Aside0.mk hbox0
 clear hb hbox0
 go_enter Try.func28,Try.ntmps28
 go_upto_region 1 with (first | ((with_reducible refine gate_dst (N:=900) rfl ?_);refine box_event ?hg (N:=900) ?hd (cs:=#[.int .u64 a1]) (t:=23) ?hr ?_;(case hd => rfl);(case hg => rfl);(case hr => first | (go_simp;done) | (go_simp;rfl));intro gb104 hg w4 hbox hb;have n0_:=Aside0.mk (below_step (by repeat (first | (with_reducible first | exact HB.out | apply below_alloc | apply pw_below_drewN | apply below_drew1) | exact HB.out)) hb);have n1_:=Aside0.mk (hbox);have n2_:=Aside0.mk ((by rw [hg];exact (below_size (by repeat (first | (with_reducible first | exact HB.out | apply below_alloc | apply pw_below_drewN | apply below_drew1) | exact HB.out))) : w.heap.size ≤ gb104));have n3_:=Aside0.mk ((by rw [hg];exact (below_size (by repeat (first | (with_reducible first | exact HB.out | apply below_alloc | apply pw_below_drewN | apply below_drew1) | exact HB.out))) : w.heap.size ≤ gb104));clear HB;have HB:=n0_;have BK104:=n1_;have GW104:=n2_;have GE104:=n3_;clear n0_ n1_ n2_ n3_;clear hb hbox hg) | ((with_reducible refine gate_dst (N:=2) rfl ?_);refine box_event ?hg (N:=2) ?hd (cs:=#[.int .u64 a0_0,.int .u64 a0_1]) (t:=25) ?hr ?_;(case hd => rfl);(case hg => rfl);(case hr => first | (go_simp;done) | (go_simp;rfl));intro gb105 hg w5 hbox hb;have n0_:=Aside0.mk (blk_below (g:=gb104) (o:=.cells #[.int .u64 a1] 23 (0,0)) (by (with_reducible repeat (first | refine blk_drewN ?_ _ | refine blk_drew ?_ | refine blk_alloc ?_ _));exact BK104.out) hb);have n1_:=Aside0.mk (below_step (by repeat (first | (with_reducible first | exact HB.out | apply below_alloc | apply pw_below_drewN | apply below_drew1 | refine below_set ?_ GE104.out) | exact HB.out)) hb);have n2_:=Aside0.mk (hbox);have n3_:=Aside0.mk ((by rw [hg];exact (below_size (by repeat (first | (with_reducible first | exact HB.out | apply below_alloc | apply pw_below_drewN | apply below_drew1 | refine below_set ?_ GE104.out) | exact HB.out))) : w.heap.size ≤ gb105));have n4_:=Aside0.mk ((by rw [hg];exact (below_size (by repeat (first | (with_reducible first | exact HB.out | apply below_alloc | apply pw_below_drewN | apply below_drew1 | refine below_set ?_ GE104.out) | exact HB.out))) : w.heap.size ≤ gb105));have n5_:=Aside0.mk ((by rw [hg];exact Nat.ne_of_lt (blk_lt (g:=gb104) (o:=.cells #[.int .u64 a1] 23 (0,0)) (by (with_reducible repeat (first | refine blk_drewN ?_ _ | refine blk_drew ?_ | refine blk_alloc ?_ _));exact BK104.out)) : gb104 ≠ gb105));have n6_:=Aside0.mk ((by rw [hg];exact Nat.ne_of_gt (blk_lt (g:=gb104) (o:=.cells #[.int .u64 a1] 23 (0,0)) (by (with_reducible repeat (first | refine blk_drewN ?_ _ | refine blk_drew ?_ | refine blk_alloc ?_ _));exact BK104.out)) : gb105 ≠ gb104));clear BK104;clear HB;have BK104:=n0_;have HB:=n1_;have BK105:=n2_;have GW105:=n3_;have GE105:=n4_;have NB104_105:=n5_;have NB105_104:=n6_;clear n0_ n1_ n2_ n3_ n4_ n5_ n6_;clear hb hbox hg))
 (try simp only [Act.put,List.setIfInBounds_toArray,List.set_cons_zero,List.set_cons_succ])
 have H:=HS3.out
 clear HS3
 by_cases c6 : a0_0 ≤ a1
 ·rw [if_pos c6] at H
  have c6b0 : decide (a0_0 ≤ a1) = true:=decide_eq_true c6
  clear c6
  obtain rfl:=Option.some.inj H
  have hnb7:=NB105_104.out
  have hnc7:=NB104_105.out
  have hcz8_0 : w5.cell? ⟨gb105,0,none⟩ = some (.int .u64 a0_0):=(blk_cell BK105.out 0).trans rfl
  have hcz8_1 : w5.cell? ⟨gb105,1,none⟩ = some (.int .u64 a0_1):=(blk_cell BK105.out 1).trans rfl
  have hfz8_0:=blk_frozen BK105.out 0
  have hfz8_1:=blk_frozen BK105.out 1
  have hcz9_0 : w5.cell? ⟨gb104,0,none⟩ = some (.int .u64 a1):=(blk_cell BK104.out 0).trans rfl
  have hfz9_0:=blk_frozen BK104.out 0
  go_wp2
  go_ret
  exact ⟨by first | rfl | (simp [errW_none,errW_some] <;> rfl) | (simp [*,errW_none,errW_some] <;> rfl),by repeat (first | (with_reducible first | exact HB.out | apply below_alloc | apply pw_below_drewN | apply below_drew1 | refine below_set ?_ GE104.out | refine below_set ?_ GE105.out) | exact HB.out)⟩
 ·rw [if_neg c6] at H
  have c6b0 : decide (a0_0 ≤ a1) = false:=decide_eq_false c6
  clear c6
  obtain rfl:=Option.some.inj H
  have hnb10:=NB105_104.out
  have hnc10:=NB104_105.out
  have hcz11_0 : w5.cell? ⟨gb105,0,none⟩ = some (.int .u64 a0_0):=(blk_cell BK105.out 0).trans rfl
  have hcz11_1 : w5.cell? ⟨gb105,1,none⟩ = some (.int .u64 a0_1):=(blk_cell BK105.out 1).trans rfl
  have hfz11_0:=blk_frozen BK105.out 0
  have hfz11_1:=blk_frozen BK105.out 1
  have hcz12_0 : w5.cell? ⟨gb104,0,none⟩ = some (.int .u64 a1):=(blk_cell BK104.out 0).trans rfl
  have hfz12_0:=blk_frozen BK104.out 0
  go_wp2
  go_ret
  exact ⟨by first | rfl | (simp [errW_none,errW_some] <;> rfl) | (simp [*,errW_none,errW_some] <;> rfl),by repeat (first | (with_reducible first | exact HB.out | apply below_alloc | apply pw_below_drewN | apply below_drew1 | refine below_set ?_ GE104.out | refine below_set ?_ GE105.out) | exact HB.out)⟩

/-! ### slices_IndexFunc_28: function 33 -/
def slices_IndexFunc_28.l0 : Nat → List (S25) → Int → Int → Int → Option (Int)
 | 0,_,_,_,_ => none
 | k + 1,x0,x7,x8,x107000 => if x8 < x7 then (if 0 ≤ x8 then (if x8 < (x0.length : Int) then ((span_Has_1.f ((rd_T25 x0 x8).f0) ((rd_T25 x0 x8).f1) x107000).bind fun t108 => (if t108 = true then (some x8) else (slices_IndexFunc_28.l0 k x0 x7 (wrap64 (x8 + 1)) x107000))) else (none)) else (none)) else (some (-1))
def slices_IndexFunc_28.f (k : Nat) (l0 : List (S25)) (a1 : Int) : Option (Int):=slices_IndexFunc_28.l0 k l0 (l0.length : Int) 0 a1
theorem slices_IndexFunc_28.mono_l : ∀ k,(∀ y0 y1 y2 y3,LeO (slices_IndexFunc_28.l0 k y0 y1 y2 y3) (slices_IndexFunc_28.l0 (k + 1) y0 y1 y2 y3))
 | 0 => fun _ _ _ _ r h => by simp [slices_IndexFunc_28.l0] at h
 | k + 1 => by
  have ih0:=slices_IndexFunc_28.mono_l k
  ·intro y0 y1 y2 y3
   unfold slices_IndexFunc_28.l0
   repeat' first
   | (with_reducible exact ih0 _ _ _ _)
   | (with_reducible exact LeO.refl _)
   | (with_reducible exact LeO.none _)
   | (with_reducible refine LeO.ite ?_ ?_)
   | (with_reducible refine LeO.bind ?_ (fun _ => ?_))
   | exact ih0 _ _ _ _
   | exact LeO.none _
   | refine LeO.ite ?_ ?_
   | refine LeO.bind ?_ (fun _ => ?_)
theorem slices_IndexFunc_28.mono : ∀ a0 a1 k,LeO (slices_IndexFunc_28.f k a0 a1) (slices_IndexFunc_28.f (k + 1) a0 a1):=by
 intro a0 a1 k
 have ih0:=slices_IndexFunc_28.mono_l k
 unfold slices_IndexFunc_28.f
 repeat' first
   | (with_reducible exact ih0 _ _ _ _)
   | (with_reducible exact LeO.refl _)
   | (with_reducible exact LeO.none _)
   | (with_reducible refine LeO.ite ?_ ?_)
   | (with_reducible refine LeO.bind ?_ (fun _ => ?_))
   | exact ih0 _ _ _ _
   | exact LeO.none _
   | refine LeO.ite ?_ ?_
   | refine LeO.bind ?_ (fun _ => ?_)
set_option maxHeartbeats 8000000 in
set_option maxRecDepth 100000 in
theorem slices_IndexFunc_28.calls (k : Nat) (A0 : Option Addr) (c0 : Nat) (l0 : List (S25)) (a1 : Int) (r : Int) (w : World) (hr0 : Kd.C k25 w A0 l0.length l0) (hc0 : l0.length ≤ c0) {gx0 : Nat} (hbx0 : w.heap[gx0]? = some (.cells #[.int .u64 a1] 23 (0,0))) (h : slices_IndexFunc_28.f k l0 a1 = some r) :
  Calls Try.prog 33 #[.slice A0 l0.length c0,.func (.func 28) #[] #[.pointer (some ⟨gx0,0,none⟩)]] w fun e w' => e = .returned (.int .i64 r) ∧ Below w.heap.size w w':=by
 suffices hs_ : ∀ w3_ : World,Below w.heap.size w w3_ → w3_.heap[gx0]? = some (.cells #[.int .u64 a1] 23 (0,0)) → (Calls Try.prog 33 #[.slice A0 l0.length c0,.func (.func 28) #[] #[.pointer (some ⟨gx0,0,none⟩)]] w3_ fun e w' => e = .returned (.int .i64 r) ∧ Below w.heap.size w w') from hs_ w (Below.refl _ _) hbx0
 clear hbx0
 intro wx_ hb_ hbox0_
 have hu25:=Try.underlying25
 have HR0:=Aside0.mk hr0
 have HC0:=Aside0.mk hc0
 clear hr0 hc0
 have HB:=Aside0.mk (Below.refl w.heap.size w)
 have H : (slices_IndexFunc_28.l0 k l0 (l0.length : Int) 0 a1) = some r:=h
 clear h
 have H':=Aside0.mk H
 clear H
 revert gx0 wx_
 intro gb106 w3 hb hbox0
 clear HB
 have HB:=Aside0.mk hb
 have BK106:=Aside0.mk hbox0
 clear hb hbox0
 go_enter Try.func33,Try.ntmps33
 go_wp2_with (first | ((with_reducible refine gate_dst (N:=900) rfl ?_);refine box_event ?hg (N:=900) ?hd (cs:=#[.int .u64 a1]) (t:=23) ?hr ?_;(case hd => rfl);(case hg => rfl);(case hr => first | (go_simp;done) | (go_simp;rfl));intro gb106 hg w3 hbox hb;have n0_:=Aside0.mk (below_step (by repeat (first | (with_reducible first | exact HB.out | apply below_alloc | apply pw_below_drewN | apply below_drew1) | exact HB.out)) hb);have n1_:=Aside0.mk (hbox);have n2_:=Aside0.mk ((by rw [hg];exact (below_size (by repeat (first | (with_reducible first | exact HB.out | apply below_alloc | apply pw_below_drewN | apply below_drew1) | exact HB.out))) : w.heap.size ≤ gb106));have n3_:=Aside0.mk ((by rw [hg];exact (below_size (by repeat (first | (with_reducible first | exact HB.out | apply below_alloc | apply pw_below_drewN | apply below_drew1) | exact HB.out))) : w.heap.size ≤ gb106));clear HB;have HB:=n0_;have BK106:=n1_;have GW106:=n2_;have GE106:=n3_;clear n0_ n1_ n2_ n3_;clear hb hbox hg))
 go_loopg [8] k (fun kq v8 w' => ∃ (x8_1 : Int),v8 = .int .i64 x8_1 ∧ Aside0 (slices_IndexFunc_28.l0 kq l0 (l0.length : Int) x8_1 a1 = some r) ∧ Aside0 (kq ≤ k) ∧ Aside0 (w'.heap[gb106]? = some (.cells #[.int .u64 a1] 23 (0,0))) ∧ Aside0 (Below w.heap.size w w'))
 case atStart => exact ⟨(0),(by first | rfl | (simp;done) | (simp [*];done)),H',⟨Nat.le_refl _⟩,⟨by (with_reducible repeat (first | refine blk_drewN ?_ _ | refine blk_drew ?_ | refine blk_alloc ?_ _));exact BK106.out⟩,⟨by repeat (first | (with_reducible first | exact HB.out | apply below_alloc | apply pw_below_drewN | apply below_drew1 | refine below_set ?_ GE106.out) | exact HB.out)⟩⟩
 case round =>
  clear H'
  try clear c2
  try clear p2
  obtain ⟨x8_1,rfl,HA,HK1,BK106,HB⟩:=hrel
  cases gk with
  | zero => exact absurd HA.out (by simp [slices_IndexFunc_28.l0])
  | succ k1 =>
   have H:=HA.out
   clear HA
   simp only [slices_IndexFunc_28.l0] at H
   by_cases c4 : x8_1 < (l0.length : Int)
   ·rw [if_pos c4] at H
    have c4b0 : decide (x8_1 < (l0.length : Int)) = true:=decide_eq_true c4
    clear c4
    by_cases c5 : 0 ≤ x8_1
    ·rw [if_pos c5] at H
     have c5b0 : decide (0 ≤ x8_1) = true:=decide_eq_true c5
     clear c5
     by_cases c6 : x8_1 < (l0.length : Int)
     ·rw [if_pos c6] at H
      have c6b0 : decide (x8_1 < (l0.length : Int)) = true:=decide_eq_true c6
      clear c6
      replace H:=Option.bind_eq_some_iff.mp H
      obtain ⟨t108,A70,H⟩:=H
      replace H : (if t108 = true then (some x8_1) else (slices_IndexFunc_28.l0 k1 l0 (l0.length : Int) (wrap64 (x8_1 + 1)) a1)) = some r:=H
      have A7:=Aside0.mk A70
      clear A70
      by_cases c8 : t108 = true
      ·subst c8
       have H1 : (some x8_1) = some r:=by rw [if_pos rfl] at H;exact H
       clear H
       have H:=H1
       clear H1
       obtain rfl:=Option.some.inj H
       have p107 : 0 ≤ (x8_1 : Int):=of_decide_eq_true (by first | (with_reducible assumption) | assumption)
       have q107 : x8_1 < (l0.length : Int):=of_decide_eq_true (by first | (with_reducible assumption) | assumption)
       obtain ⟨ad107,e107,hx107_0,hx107_1⟩:=at_T25 HR0.out x8_1 p107 q107
       cases e107
       replace hx107_0:=(HB.out.cell (World.block_lt_of_cell? w _ hx107_0)).trans hx107_0
       replace hx107_1:=(HB.out.cell (World.block_lt_of_cell? w _ hx107_1)).trans hx107_1
       replace p107:=eq_true p107
       replace q107:=eq_true q107
       go_wp2_with (first | ((refine gate_closure (f:=28) rfl rfl ?_);refine goesC_ (some 16) rfl rfl Try.func28 (by kernel_rfl) rfl #[.agg #[.int .u64 ((rd_T25 l0 x8_1).f0),.int .u64 ((rd_T25 l0 x8_1).f1)],.pointer (some ⟨gb106,0,none⟩)] rfl rfl (by (try simp only [List.map_toArray,List.map_cons,List.map_nil]);first | done | rfl | (simp only [List.length_drop,List.length_take];rfl)) ?_;(with_reducible refine (span_Has_1.calls ((rd_T25 l0 x8_1).f0) ((rd_T25 l0 x8_1).f1) a1 true _ ?side1 A7.out).mono ?_);(case side1 => exact (by (with_reducible repeat (first | refine blk_drewN ?_ _ | refine blk_drew ?_ | refine blk_alloc ?_ _));exact BK106.out));rintro e w9 ⟨rfl,hb⟩;refine ⟨_,rfl,?_⟩;have n0_:=Aside0.mk (blk_below (g:=gb106) (o:=.cells #[.int .u64 a1] 23 (0,0)) (by (with_reducible repeat (first | refine blk_drewN ?_ _ | refine blk_drew ?_ | refine blk_alloc ?_ _));exact BK106.out) hb);have n1_:=Aside0.mk (below_step (by repeat (first | (with_reducible first | exact HB.out | apply below_alloc | apply pw_below_drewN | apply below_drew1 | refine below_set ?_ GE106.out) | exact HB.out)) hb);clear BK106;clear HB;have BK106:=n0_;have HB:=n1_;clear n0_ n1_;(try clear hb);(try clear hb2);(try clear hk);(try clear hi)))
       go_ret
       exact ⟨by first | rfl | (simp [errW_none,errW_some] <;> rfl) | (simp [*,errW_none,errW_some] <;> rfl),by repeat (first | (with_reducible first | exact HB.out | apply below_alloc | apply pw_below_drewN | apply below_drew1 | refine below_set ?_ GE106.out) | exact HB.out)⟩
      ·replace c8:=Bool.eq_false_iff.mpr c8
       subst c8
       have H1 : (slices_IndexFunc_28.l0 k1 l0 (l0.length : Int) (wrap64 (x8_1 + 1)) a1) = some r:=by rw [if_neg (show ¬ (false = true) by decide)] at H;exact H
       clear H
       have H:=H1
       clear H1
       have H':=Aside0.mk H
       clear H
       have p107 : 0 ≤ (x8_1 : Int):=of_decide_eq_true (by first | (with_reducible assumption) | assumption)
       have q107 : x8_1 < (l0.length : Int):=of_decide_eq_true (by first | (with_reducible assumption) | assumption)
       obtain ⟨ad107,e107,hx107_0,hx107_1⟩:=at_T25 HR0.out x8_1 p107 q107
       cases e107
       replace hx107_0:=(HB.out.cell (World.block_lt_of_cell? w _ hx107_0)).trans hx107_0
       replace hx107_1:=(HB.out.cell (World.block_lt_of_cell? w _ hx107_1)).trans hx107_1
       replace p107:=eq_true p107
       replace q107:=eq_true q107
       go_wp2_with (first | ((refine gate_closure (f:=28) rfl rfl ?_);refine goesC_ (some 16) rfl rfl Try.func28 (by kernel_rfl) rfl #[.agg #[.int .u64 ((rd_T25 l0 x8_1).f0),.int .u64 ((rd_T25 l0 x8_1).f1)],.pointer (some ⟨gb106,0,none⟩)] rfl rfl (by (try simp only [List.map_toArray,List.map_cons,List.map_nil]);first | done | rfl | (simp only [List.length_drop,List.length_take];rfl)) ?_;(with_reducible refine (span_Has_1.calls ((rd_T25 l0 x8_1).f0) ((rd_T25 l0 x8_1).f1) a1 false _ ?side1 A7.out).mono ?_);(case side1 => exact (by (with_reducible repeat (first | refine blk_drewN ?_ _ | refine blk_drew ?_ | refine blk_alloc ?_ _));exact BK106.out));rintro e w10 ⟨rfl,hb⟩;refine ⟨_,rfl,?_⟩;have n0_:=Aside0.mk (blk_below (g:=gb106) (o:=.cells #[.int .u64 a1] 23 (0,0)) (by (with_reducible repeat (first | refine blk_drewN ?_ _ | refine blk_drew ?_ | refine blk_alloc ?_ _));exact BK106.out) hb);have n1_:=Aside0.mk (below_step (by repeat (first | (with_reducible first | exact HB.out | apply below_alloc | apply pw_below_drewN | apply below_drew1 | refine below_set ?_ GE106.out) | exact HB.out)) hb);clear BK106;clear HB;have BK106:=n0_;have HB:=n1_;clear n0_ n1_;(try clear hb);(try clear hb2);(try clear hk);(try clear hi)))
       go_roundg k1
       case measure => have:=HK1.out;omega
       case rel => exact ⟨(wrap64 (x8_1 + 1)),(by first | rfl | (simp;done) | (simp [*];done)),H',⟨by have:=HK1.out;omega⟩,⟨by (with_reducible repeat (first | refine blk_drewN ?_ _ | refine blk_drew ?_ | refine blk_alloc ?_ _));exact BK106.out⟩,⟨by repeat (first | (with_reducible first | exact HB.out | apply below_alloc | apply pw_below_drewN | apply below_drew1 | refine below_set ?_ GE106.out) | exact HB.out)⟩⟩
     ·rw [if_neg c6] at H
      exact absurd H (by simp)
    ·rw [if_neg c5] at H
     exact absurd H (by simp)
   ·rw [if_neg c4] at H
    have c4b0 : decide (x8_1 < (l0.length : Int)) = false:=decide_eq_false c4
    clear c4
    obtain rfl:=Option.some.inj H
    go_wp2
    go_ret
    exact ⟨by first | rfl | (simp [errW_none,errW_some] <;> rfl) | (simp [*,errW_none,errW_some] <;> rfl),by repeat (first | (with_reducible first | exact HB.out | apply below_alloc | apply pw_below_drewN | apply below_drew1 | refine below_set ?_ GE106.out) | exact HB.out)⟩

/-! ### slices_ContainsFunc_28: function 27 -/
def slices_ContainsFunc_28.f (k : Nat) (l0 : List (S25)) (a1 : Int) : Option (Bool):=(slices_IndexFunc_28.f k l0 a1).bind fun t110 => (some (decide (t110 ≥ 0)))
theorem slices_ContainsFunc_28.mono : ∀ a0 a1 k,LeO (slices_ContainsFunc_28.f k a0 a1) (slices_ContainsFunc_28.f (k + 1) a0 a1):=by
 intro a0 a1 k
 unfold slices_ContainsFunc_28.f
 repeat' first
   | (with_reducible exact slices_IndexFunc_28.mono _ _ _)
   | (with_reducible exact LeO.refl _)
   | (with_reducible exact LeO.none _)
   | (with_reducible refine LeO.ite ?_ ?_)
   | (with_reducible refine LeO.bind ?_ (fun _ => ?_))
   | exact slices_IndexFunc_28.mono _ _ _
   | exact LeO.none _
   | refine LeO.ite ?_ ?_
   | refine LeO.bind ?_ (fun _ => ?_)
set_option maxHeartbeats 8000000 in
set_option maxRecDepth 100000 in
theorem slices_ContainsFunc_28.calls (k : Nat) (A0 : Option Addr) (c0 : Nat) (l0 : List (S25)) (a1 : Int) (r : Bool) (w : World) (hr0 : Kd.C k25 w A0 l0.length l0) (hc0 : l0.length ≤ c0) {gx0 : Nat} (hbx0 : w.heap[gx0]? = some (.cells #[.int .u64 a1] 23 (0,0))) (h : slices_ContainsFunc_28.f k l0 a1 = some r) :
  Calls Try.prog 27 #[.slice A0 l0.length c0,.func (.func 28) #[] #[.pointer (some ⟨gx0,0,none⟩)]] w fun e w' => e = .returned (.bool r) ∧ Below w.heap.size w w':=by
 suffices hs_ : ∀ w3_ : World,Below w.heap.size w w3_ → w3_.heap[gx0]? = some (.cells #[.int .u64 a1] 23 (0,0)) → (Calls Try.prog 27 #[.slice A0 l0.length c0,.func (.func 28) #[] #[.pointer (some ⟨gx0,0,none⟩)]] w3_ fun e w' => e = .returned (.bool r) ∧ Below w.heap.size w w') from hs_ w (Below.refl _ _) hbx0
 clear hbx0
 intro wx_ hb_ hbox0_
 have HR0:=Aside0.mk hr0
 have HC0:=Aside0.mk hc0
 clear hr0 hc0
 have HB:=Aside0.mk (Below.refl w.heap.size w)
 have H : ((slices_IndexFunc_28.f k l0 a1).bind fun t110 => (some (decide (t110 ≥ 0)))) = some r:=h
 clear h
 replace H:=Option.bind_eq_some_iff.mp H
 obtain ⟨t110,A30,H⟩:=H
 replace H : (some (decide (t110 ≥ 0))) = some r:=H
 have A3:=Aside0.mk A30
 clear A30
 obtain rfl:=Option.some.inj H
 revert gx0 wx_
 intro gb109 w4 hb hbox0
 clear HB
 have HB:=Aside0.mk hb
 have BK109:=Aside0.mk hbox0
 clear hb hbox0
 go_enter Try.func27,Try.ntmps27
 go_wp2_with (first | ((with_reducible refine gate_dst (N:=900) rfl ?_);refine box_event ?hg (N:=900) ?hd (cs:=#[.int .u64 a1]) (t:=23) ?hr ?_;(case hd => rfl);(case hg => rfl);(case hr => first | (go_simp;done) | (go_simp;rfl));intro gb109 hg w4 hbox hb;have n0_:=Aside0.mk (below_step (by repeat (first | (with_reducible first | exact HB.out | apply below_alloc | apply pw_below_drewN | apply below_drew1) | exact HB.out)) hb);have n1_:=Aside0.mk (hbox);have n2_:=Aside0.mk ((by rw [hg];exact (below_size (by repeat (first | (with_reducible first | exact HB.out | apply below_alloc | apply pw_below_drewN | apply below_drew1) | exact HB.out))) : w.heap.size ≤ gb109));have n3_:=Aside0.mk ((by rw [hg];exact (below_size (by repeat (first | (with_reducible first | exact HB.out | apply below_alloc | apply pw_below_drewN | apply below_drew1) | exact HB.out))) : w.heap.size ≤ gb109));clear HB;have HB:=n0_;have BK109:=n1_;have GW109:=n2_;have GE109:=n3_;clear n0_ n1_ n2_ n3_;clear hb hbox hg) | ((with_reducible refine gate_callee (f:=33) rfl ?_);refine goesL_ (some 7) rfl rfl Try.func33 (by kernel_rfl) rfl #[.slice A0 l0.length c0,.func (.func 28) #[] #[.pointer (some ⟨gb109,0,none⟩)]] rfl (by (try simp only [List.map_toArray,List.map_cons,List.map_nil]);first | done | rfl | (simp only [List.length_drop,List.length_take];rfl)) ?_;(with_reducible refine (slices_IndexFunc_28.calls k _ _ l0 a1 t110 _ ?side1 ?side2 ?side3 A3.out).mono ?_);(case side1 => repeat (first | exact (Kd.C_below HR0.out HB.out) | (with_reducible refine Kd.C_alloc ?_ _) | (with_reducible refine Kd.C_drewN ?_ _) | (with_reducible refine Kd.C_drew ?_)));(case side2 => exact HC0.out);(case side3 => exact (by (with_reducible repeat (first | refine blk_drewN ?_ _ | refine blk_drew ?_ | refine blk_alloc ?_ _));exact BK109.out));rintro e w5 ⟨rfl,hb⟩;refine ⟨_,rfl,?_⟩;have n0_:=Aside0.mk (blk_below (g:=gb109) (o:=.cells #[.int .u64 a1] 23 (0,0)) (by (with_reducible repeat (first | refine blk_drewN ?_ _ | refine blk_drew ?_ | refine blk_alloc ?_ _));exact BK109.out) hb);have n1_:=Aside0.mk (below_step (by repeat (first | (with_reducible first | exact HB.out | apply below_alloc | apply pw_below_drewN | apply below_drew1 | refine below_set ?_ GE109.out) | exact HB.out)) hb);clear BK109;clear HB;have BK109:=n0_;have HB:=n1_;clear n0_ n1_;(try clear hb);(try clear hb2);(try clear hk);(try clear hi)))
 go_ret
 exact ⟨by first | rfl | (simp [errW_none,errW_some] <;> rfl) | (simp [*,errW_none,errW_some] <;> rfl),by repeat (first | (with_reducible first | exact HB.out | apply below_alloc | apply pw_below_drewN | apply below_drew1 | refine below_set ?_ GE109.out) | exact HB.out)⟩

end Go.Proofs.Ytgaccappklhojaa.P
