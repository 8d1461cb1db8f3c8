-- Printed for this claim by xprint.py of this session: contracts of this session's own stand in for what the print does not take
import Derived.Test.YtadhkamocbhbmaaPx0
import Derived.Test.YtadhkamocbhbmaaPx25
namespace Go.Proofs.Ytadhkamocbhbmaa.P
open Go.RowKit Go.Proofs.YtadhkamocbhbmaaW.PrintWords Go.Proofs.YtadhkamocbhbmaaW.PrintLast Go.Proofs.YtadhkamocbhbmaaW.PrintMore
attribute [local go_sem] max2_int min2_int max_two min_two max_three min_three max_four min_four   -- for this text's walks alone
set_option linter.unusedVariables false
set_option linter.unusedSimpArgs false

/-! ### wigwagref07_Add: function 18 -/
mutual
def wigwagref07_Add.l0 : Nat → List (S37) → List (S37) → Bool → Int → Int → Int → Option ((List (S37)))
 | 0,_,_,_,_,_,_ => none
 | k + 1,x0,x5,x6,x7,x245000,x245001 => if x7 < (x0.length : Int) then (if x6 = true then (wigwagref07_Add.j1 k x0 x5 x6 x7 false x245000 x245001) else (if 0 ≤ x7 then (wigwagref07_Add.j1 k x0 x5 x6 x7 (decide (x245000 ≤ ((rd_T37 x0 x7).f0))) x245000 x245001) else (none))) else (if x6 = true then (some x5) else ((wigwagref07_joined.f k x5 x245000 x245001).bind fun t257 => (some t257)))
def wigwagref07_Add.j1 : Nat → List (S37) → List (S37) → Bool → Int → Bool → Int → Int → Option ((List (S37)))
 | 0,_,_,_,_,_,_,_ => none
 | k + 1,x0,x5,x6,x7,x25,x245000,x245001 => if x25 = true then ((wigwagref07_joined.f k x5 x245000 x245001).bind fun t246 => (if 0 ≤ x7 then (if x7 < (x0.length : Int) then ((wigwagref07_joined.f k t246 ((rd_T37 x0 x7).f0) ((rd_T37 x0 x7).f1)).bind fun t250 => (wigwagref07_Add.l0 k x0 t250 true (wrap64 (x7 + 1)) x245000 x245001)) else (none)) else (none))) else (if 0 ≤ x7 then (if x7 < (x0.length : Int) then ((wigwagref07_joined.f k x5 ((rd_T37 x0 x7).f0) ((rd_T37 x0 x7).f1)).bind fun t254 => (wigwagref07_Add.l0 k x0 t254 x6 (wrap64 (x7 + 1)) x245000 x245001)) else (none)) else (none))
end
def wigwagref07_Add.f (k : Nat) (l0 : List (S37)) (a1_0 : Int) (a1_1 : Int) : Option ((List (S37))):=wigwagref07_Add.l0 k l0 ([] : List (S37)) false 0 a1_0 a1_1
theorem wigwagref07_Add.mono_l : ∀ k,(∀ y0 y1 y2 y3 y4 y5,LeO (wigwagref07_Add.l0 k y0 y1 y2 y3 y4 y5) (wigwagref07_Add.l0 (k + 1) y0 y1 y2 y3 y4 y5)) ∧ (∀ y0 y1 y2 y3 y4 y5 y6,LeO (wigwagref07_Add.j1 k y0 y1 y2 y3 y4 y5 y6) (wigwagref07_Add.j1 (k + 1) y0 y1 y2 y3 y4 y5 y6))
 | 0 => ⟨fun _ _ _ _ _ _ r h => by simp [wigwagref07_Add.l0] at h,fun _ _ _ _ _ _ _ r h => by simp [wigwagref07_Add.j1] at h⟩
 | k + 1 => by
  obtain ⟨ih0,ih1⟩:=wigwagref07_Add.mono_l k
  refine ⟨?_,?_⟩
  ·intro y0 y1 y2 y3 y4 y5
   unfold wigwagref07_Add.l0
   repeat' first
   | (with_reducible exact ih0 _ _ _ _ _ _)
   | (with_reducible exact ih1 _ _ _ _ _ _ _)
   | (with_reducible exact wigwagref07_joined.mono _ _ _ _)
   | (with_reducible exact LeO.refl _)
   | (with_reducible exact LeO.none _)
   | (with_reducible refine LeO.ite ?_ ?_)
   | (with_reducible refine LeO.bind ?_ (fun _ => ?_))
   | exact ih0 _ _ _ _ _ _
   | exact ih1 _ _ _ _ _ _ _
   | exact wigwagref07_joined.mono _ _ _ _
   | exact LeO.none _
   | refine LeO.ite ?_ ?_
   | refine LeO.bind ?_ (fun _ => ?_)
  ·intro y0 y1 y2 y3 y4 y5 y6
   unfold wigwagref07_Add.j1
   repeat' first
   | (with_reducible exact ih0 _ _ _ _ _ _)
   | (with_reducible exact ih1 _ _ _ _ _ _ _)
   | (with_reducible exact wigwagref07_joined.mono _ _ _ _)
   | (with_reducible exact LeO.refl _)
   | (with_reducible exact LeO.none _)
   | (with_reducible refine LeO.ite ?_ ?_)
   | (with_reducible refine LeO.bind ?_ (fun _ => ?_))
   | exact ih0 _ _ _ _ _ _
   | exact ih1 _ _ _ _ _ _ _
   | exact wigwagref07_joined.mono _ _ _ _
   | exact LeO.none _
   | refine LeO.ite ?_ ?_
   | refine LeO.bind ?_ (fun _ => ?_)
theorem wigwagref07_Add.mono : ∀ a0 a1 a2 k,LeO (wigwagref07_Add.f k a0 a1 a2) (wigwagref07_Add.f (k + 1) a0 a1 a2):=by
 intro a0 a1 a2 k
 obtain ⟨ih0,ih1⟩:=wigwagref07_Add.mono_l k
 unfold wigwagref07_Add.f
 repeat' first
   | (with_reducible exact ih0 _ _ _ _ _ _)
   | (with_reducible exact ih1 _ _ _ _ _ _ _)
   | (with_reducible exact wigwagref07_joined.mono _ _ _ _)
   | (with_reducible exact LeO.refl _)
   | (with_reducible exact LeO.none _)
   | (with_reducible refine LeO.ite ?_ ?_)
   | (with_reducible refine LeO.bind ?_ (fun _ => ?_))
   | exact ih0 _ _ _ _ _ _
   | exact ih1 _ _ _ _ _ _ _
   | exact wigwagref07_joined.mono _ _ _ _
   | exact LeO.none _
   | refine LeO.ite ?_ ?_
   | refine LeO.bind ?_ (fun _ => ?_)
set_option maxHeartbeats 8000000 in
set_option maxRecDepth 100000 in
theorem wigwagref07_Add.calls (k : Nat) (A0 : Option Addr) (c0 : Nat) (l0 : List (S37)) (a1_0 : Int) (a1_1 : Int) (r : List (S37)) (w : World) (hr0 : Kd.C k37 w A0 l0.length l0) (hc0 : l0.length ≤ c0) (h : wigwagref07_Add.f k l0 a1_0 a1_1 = some r) :
  Calls Try.prog 18 #[.slice A0 l0.length c0,.agg #[.int .u64 a1_0,.int .u64 a1_1]] w fun e w' => ∃ v0_ : Value,e = .returned (v0_) ∧ Kd.R k37 37 w' w.heap.size (fun _ => True) v0_ r ∧ Below w.heap.size w w':=by
 have hu37:=Try.underlying37
 have HR0:=Aside0.mk hr0
 have HC0:=Aside0.mk hc0
 clear hr0 hc0
 have HB:=Aside0.mk (Below.refl w.heap.size w)
 have H : (wigwagref07_Add.l0 k l0 ([] : List (S37)) false 0 a1_0 a1_1) = some r:=h
 clear h
 have H':=Aside0.mk H
 clear H
 go_enter Try.func18,Try.ntmps18
 go_wp2_with (first | ((with_reducible refine gate_dst (N:=3) rfl ?_);refine box_event ?hg (N:=3) ?hd (cs:=#[.int .u64 a1_0,.int .u64 a1_1]) (t:=37) ?hr ?_;(case hd => rfl);(case hg => rfl);(case hr => first | (go_simp;done) | (go_simp;rfl));intro gb244 hg w3 hbox hb;have n0_:=Aside0.mk (below_step (by repeat (first | (with_reducible first | exact HB.out | apply below_alloc | apply pw_below_drewN | apply below_drew1) | exact HB.out)) hb);have n1_:=Aside0.mk (hbox);have n2_:=Aside0.mk ((by rw [hg];exact (below_size (by repeat (first | (with_reducible first | exact HB.out | apply below_alloc | apply pw_below_drewN | apply below_drew1) | exact HB.out))) : w.heap.size ≤ gb244));have n3_:=Aside0.mk ((by rw [hg];exact (below_size (by repeat (first | (with_reducible first | exact HB.out | apply below_alloc | apply pw_below_drewN | apply below_drew1) | exact HB.out))) : w.heap.size ≤ gb244));clear HB;have HB:=n0_;have BK244:=n1_;have GW244:=n2_;have GE244:=n3_;clear n0_ n1_ n2_ n3_;clear hb hbox hg))
 repeat (go_quiet (first | ((with_reducible refine gate_dst (N:=3) rfl ?_);refine box_event ?hg (N:=3) ?hd (cs:=#[.int .u64 a1_0,.int .u64 a1_1]) (t:=37) ?hr ?_;(case hd => rfl);(case hg => rfl);(case hr => first | (go_simp;done) | (go_simp;rfl));intro gb244 hg w3 hbox hb;have n0_:=Aside0.mk (below_step (by repeat (first | (with_reducible first | exact HB.out | apply below_alloc | apply pw_below_drewN | apply below_drew1) | exact HB.out)) hb);have n1_:=Aside0.mk (hbox);have n2_:=Aside0.mk ((by rw [hg];exact (below_size (by repeat (first | (with_reducible first | exact HB.out | apply below_alloc | apply pw_below_drewN | apply below_drew1) | exact HB.out))) : w.heap.size ≤ gb244));have n3_:=Aside0.mk ((by rw [hg];exact (below_size (by repeat (first | (with_reducible first | exact HB.out | apply below_alloc | apply pw_below_drewN | apply below_drew1) | exact HB.out))) : w.heap.size ≤ gb244));clear HB;have HB:=n0_;have BK244:=n1_;have GW244:=n2_;have GE244:=n3_;clear n0_ n1_ n2_ n3_;clear hb hbox hg));try go_wp2_with (first | ((with_reducible refine gate_dst (N:=3) rfl ?_);refine box_event ?hg (N:=3) ?hd (cs:=#[.int .u64 a1_0,.int .u64 a1_1]) (t:=37) ?hr ?_;(case hd => rfl);(case hg => rfl);(case hr => first | (go_simp;done) | (go_simp;rfl));intro gb244 hg w3 hbox hb;have n0_:=Aside0.mk (below_step (by repeat (first | (with_reducible first | exact HB.out | apply below_alloc | apply pw_below_drewN | apply below_drew1) | exact HB.out)) hb);have n1_:=Aside0.mk (hbox);have n2_:=Aside0.mk ((by rw [hg];exact (below_size (by repeat (first | (with_reducible first | exact HB.out | apply below_alloc | apply pw_below_drewN | apply below_drew1) | exact HB.out))) : w.heap.size ≤ gb244));have n3_:=Aside0.mk ((by rw [hg];exact (below_size (by repeat (first | (with_reducible first | exact HB.out | apply below_alloc | apply pw_below_drewN | apply below_drew1) | exact HB.out))) : w.heap.size ≤ gb244));clear HB;have HB:=n0_;have BK244:=n1_;have GW244:=n2_;have GE244:=n3_;clear n0_ n1_ n2_ n3_;clear hb hbox hg)))
 go_loopg [5,6,7] k (fun kq v5 v6 v7 w' => ∃ (x5_1 : List (S37)) (x6_1 : Bool) (x7_1 : Int),v6 = .bool x6_1 ∧ v7 = .int .i64 x7_1 ∧ Aside0 (wigwagref07_Add.l0 kq l0 x5_1 x6_1 x7_1 a1_0 a1_1 = some r) ∧ Aside0 (kq ≤ k) ∧ Aside0 (Kd.R k37 37 w' w.heap.size (fun k_ => k_ ≠ gb244) v5 x5_1) ∧ Aside0 (w'.heap[gb244]? = some (.cells #[.int .u64 a1_0,.int .u64 a1_1] 37 (0,0))) ∧ Aside0 (Below w.heap.size w w'))
 case atStart => exact ⟨(([] : List (S37))),(false),(0),(by first | rfl | (simp;done) | (simp [*];done)),(by first | rfl | (simp;done) | (simp [*];done)),H',⟨Nat.le_refl _⟩,⟨by first | exact Kd.R_nil _ _ _ _ _ | exact Kd.N_nil _ _ _ _ _ | exact Kd.V_nil _ _ _ _ _ | exact Kd.Q_nil _ _ _ _ _ | exact Kd.S_nil _ _ _ _ _⟩,⟨by (with_reducible repeat (first | refine blk_drewN ?_ _ | refine blk_drew ?_ | refine blk_alloc ?_ _));exact BK244.out⟩,⟨by repeat (first | (with_reducible first | exact HB.out | apply below_alloc | apply pw_below_drewN | apply below_drew1 | refine below_set ?_ GE244.out) | exact HB.out)⟩⟩
 case round =>
  clear H'
  try clear c1
  try clear p2
  obtain ⟨x5_1,x6_1,x7_1,rfl,rfl,HA,HK1,HO_5,BK244,HB⟩:=hrel
  cases gk with
  | zero => exact absurd HA.out (by simp [wigwagref07_Add.l0])
  | succ k1 =>
   have H:=HA.out
   clear HA
   simp only [wigwagref07_Add.l0] at H
   by_cases c4 : x7_1 < (l0.length : Int)
   ·rw [if_pos c4] at H
    have c4b0 : decide (x7_1 < (l0.length : Int)) = true:=decide_eq_true c4
    clear c4
    have HC5:=Aside0.mk H
    clear H
    go_upto_region 6 with (fail)
    repeat (go_quiet (fail);go_upto_region 6 with (fail))
    go_cut [25] (fun v25 wc => ∃ (kq : Nat) (x25_4 : Bool),v25 = .bool x25_4 ∧ Aside0 (wigwagref07_Add.j1 kq l0 x5_1 x6_1 x7_1 x25_4 a1_0 a1_1 = some r) ∧ Aside0 (kq ≤ k1) ∧ Aside0 (Kd.R k37 37 wc w.heap.size (fun k_ => k_ ≠ gb244) u5 x5_1) ∧ Aside0 (wc.heap[gb244]? = some (.cells #[.int .u64 a1_0,.int .u64 a1_1] 37 (0,0))) ∧ Aside0 (Below w.heap.size w wc))
    case first =>
     have H:=HC5.out
     clear HC5
     by_cases c6 : x6_1 = true
     ·subst c6
      have H1 : (wigwagref07_Add.j1 k1 l0 x5_1 true x7_1 false a1_0 a1_1) = some r:=by rw [if_pos rfl] at H;exact H
      clear H
      have H:=H1
      clear H1
      have H':=Aside0.mk H
      clear H
      go_wp2
      repeat (go_quiet (fail);try go_wp2)
      go_meet
      case rel => exact ⟨_,(false),(by first | rfl | (simp;done) | (simp [*];done)),H',⟨by have:=HK1.out;first | omega | exact Nat.le_refl _⟩,⟨by (with_reducible repeat (first | apply Kd.R_alloc | apply Kd.R_drewN | apply Kd.R_drew));exact HO_5.out⟩,⟨by (with_reducible repeat (first | refine blk_drewN ?_ _ | refine blk_drew ?_ | refine blk_alloc ?_ _));exact BK244.out⟩,⟨by repeat (first | (with_reducible first | exact HB.out | apply below_alloc | apply pw_below_drewN | apply below_drew1 | refine below_set ?_ GE244.out) | exact HB.out)⟩⟩
     ·replace c6:=Bool.eq_false_iff.mpr c6
      subst c6
      have H1 : (if 0 ≤ x7_1 then (wigwagref07_Add.j1 k1 l0 x5_1 false x7_1 (decide (a1_0 ≤ ((rd_T37 l0 x7_1).f0))) a1_0 a1_1) else (none)) = some r:=by rw [if_neg (show ¬ (false = true) by decide)] at H;exact H
      clear H
      have H:=H1
      clear H1
      by_cases c7 : 0 ≤ x7_1
      ·rw [if_pos c7] at H
       have c7b0 : decide (0 ≤ x7_1) = true:=decide_eq_true c7
       clear c7
       (first | rw [c7b0] | (simp only [i64_w,i32_w];rw [c7b0]) | skip)
       have H':=Aside0.mk H
       clear H
       have hcz8_0 : wr.cell? ⟨gb244,0,none⟩ = some (.int .u64 a1_0):=(blk_cell BK244.out 0).trans rfl
       have hcz8_1 : wr.cell? ⟨gb244,1,none⟩ = some (.int .u64 a1_1):=(blk_cell BK244.out 1).trans rfl
       have hfz8_0:=blk_frozen BK244.out 0
       have hfz8_1:=blk_frozen BK244.out 1
       have p245 : 0 ≤ (x7_1 : Int):=of_decide_eq_true (by first | (with_reducible assumption) | assumption)
       have q245 : x7_1 < (l0.length : Int):=of_decide_eq_true (by first | (with_reducible assumption) | assumption)
       obtain ⟨ad245,e245,hx245_0,hx245_1⟩:=at_T37 HR0.out x7_1 p245 q245
       cases e245
       replace hx245_0:=(HB.out.cell (World.block_lt_of_cell? w _ hx245_0)).trans hx245_0
       replace hx245_1:=(HB.out.cell (World.block_lt_of_cell? w _ hx245_1)).trans hx245_1
       replace p245:=eq_true p245
       replace q245:=eq_true q245
       go_wp2
       repeat (go_quiet (fail);try go_wp2)
       go_meet
       case rel => exact ⟨_,(decide (a1_0 ≤ ((rd_T37 l0 x7_1).f0))),(by first | rfl | (simp;done) | (simp [*];done)),H',⟨by have:=HK1.out;first | omega | exact Nat.le_refl _⟩,⟨by (with_reducible repeat (first | apply Kd.R_alloc | apply Kd.R_drewN | apply Kd.R_drew));exact HO_5.out⟩,⟨by (with_reducible repeat (first | refine blk_drewN ?_ _ | refine blk_drew ?_ | refine blk_alloc ?_ _));exact BK244.out⟩,⟨by repeat (first | (with_reducible first | exact HB.out | apply below_alloc | apply pw_below_drewN | apply below_drew1 | refine below_set ?_ GE244.out) | exact HB.out)⟩⟩
      ·rw [if_neg c7] at H
       exact absurd H (by simp)
    case rest =>
     clear HC5
     try clear c1
     try clear p2
     try clear q2
     try clear hx2
     try clear c4
     try clear c4b0
     try clear c6
     try clear c7
     try clear c7b0
     try clear hcz8_0
     try clear hcz8_1
     try clear hfz8_0
     try clear hfz8_1
     try clear hx245_0
     try clear hx245_1
     try clear p2
     try clear p245
     try clear q245
     obtain ⟨kq,x25_4,rfl,HA,HJ4,HO_5,BK244,HB⟩:=hcut
     cases kq with
     | zero => exact absurd HA.out (by simp [wigwagref07_Add.j1])
     | succ kj4 =>
      have H:=HA.out
      clear HA
      simp only [wigwagref07_Add.j1] at H
      by_cases c9 : x25_4 = true
      ·subst c9
       have H1 : ((wigwagref07_joined.f kj4 x5_1 a1_0 a1_1).bind fun t246 => (if 0 ≤ x7_1 then (if x7_1 < (l0.length : Int) then ((wigwagref07_joined.f kj4 t246 ((rd_T37 l0 x7_1).f0) ((rd_T37 l0 x7_1).f1)).bind fun t250 => (wigwagref07_Add.l0 kj4 l0 t250 true (wrap64 (x7_1 + 1)) a1_0 a1_1)) else (none)) else (none))) = some r:=by rw [if_pos rfl] at H;exact H
       clear H
       have H:=H1
       clear H1
       replace H:=Option.bind_eq_some_iff.mp H
       obtain ⟨t246,A100,H⟩:=H
       replace H : (if 0 ≤ x7_1 then (if x7_1 < (l0.length : Int) then ((wigwagref07_joined.f kj4 t246 ((rd_T37 l0 x7_1).f0) ((rd_T37 l0 x7_1).f1)).bind fun t250 => (wigwagref07_Add.l0 kj4 l0 t250 true (wrap64 (x7_1 + 1)) a1_0 a1_1)) else (none)) else (none)) = some r:=H
       have A10:=Aside0.mk A100
       clear A100
       by_cases c11 : 0 ≤ x7_1
       ·rw [if_pos c11] at H
        have c11b0 : decide (0 ≤ x7_1) = true:=decide_eq_true c11
        clear c11
        by_cases c12 : x7_1 < (l0.length : Int)
        ·rw [if_pos c12] at H
         have c12b0 : decide (x7_1 < (l0.length : Int)) = true:=decide_eq_true c12
         clear c12
         replace H:=Option.bind_eq_some_iff.mp H
         obtain ⟨t250,A130,H⟩:=H
         replace H : (wigwagref07_Add.l0 kj4 l0 t250 true (wrap64 (x7_1 + 1)) a1_0 a1_1) = some r:=H
         have A13:=Aside0.mk A130
         clear A130
         have H':=Aside0.mk H
         clear H
         have hcz14_0 : wc.cell? ⟨gb244,0,none⟩ = some (.int .u64 a1_0):=(blk_cell BK244.out 0).trans rfl
         have hcz14_1 : wc.cell? ⟨gb244,1,none⟩ = some (.int .u64 a1_1):=(blk_cell BK244.out 1).trans rfl
         have hfz14_0:=blk_frozen BK244.out 0
         have hfz14_1:=blk_frozen BK244.out 1
         obtain ⟨Ao15,co15,eo15⟩:=Kd.R_slice HO_5.out
         subst eo15
         go_wp2_with (first | (go_at_call 30;(with_reducible refine (wigwagref07_joined.calls kj4 (fun k_ => some k_ = (.slice Ao15 x5_1.length co15 : Value).ownBlock) (.slice Ao15 x5_1.length co15) x5_1 a1_0 a1_1 t246 w _ ?side1 ?side2 A10.out).mono ?_);(case side1 => repeat (first | (with_reducible first | exact HB.out | apply below_alloc | apply pw_below_drewN | apply below_drew1 | refine below_set ?_ GE244.out) | exact HB.out));(case side2 => exact Kd.R_tight rfl HO_5.out);rintro e w16 ⟨v247,rfl,ho0,hb,hkp⟩;have n0_:=Aside0.mk (blk_kept (by (with_reducible repeat (first | refine blk_drewN ?_ _ | refine blk_drew ?_ | refine blk_alloc ?_ _));exact BK244.out) hkp (fun hs_ => (fun e_ => (Kd.R_away HO_5.out (fun _ hk => hk)) e_) hs_));have n1_:=Aside0.mk (Kd.R_mono (ok':=fun k_ => k_ ≠ gb244) ho0 (fun k_ hk_ => Or.elim hk_ (fun hs_ => fun e_ => (Kd.R_away HO_5.out (fun _ hk => hk)) (by rw [← e_];exact hs_)) (fun hn_ => (Kd.freshB (g:=gb244) (o:=.cells #[.int .u64 a1_0,.int .u64 a1_1] 37 (0,0)) (by (with_reducible repeat (first | refine blk_drewN ?_ _ | refine blk_drew ?_ | refine blk_alloc ?_ _));exact BK244.out) k_ hn_))));have n2_:=Aside0.mk (hb);clear BK244;clear HB;clear HO_5;have BK244:=n0_;have HO248:=n1_;have HB:=n2_;clear n0_ n1_ n2_;(try clear hb);(try clear hkp);(try clear ho0);have p249 : 0 ≤ (x7_1 : Int):=of_decide_eq_true (by first | (with_reducible assumption) | assumption);have q249 : x7_1 < (l0.length : Int):=of_decide_eq_true (by first | (with_reducible assumption) | assumption);obtain ⟨ad249,e249,hx249_0,hx249_1⟩:=at_T37 HR0.out x7_1 p249 q249;cases e249;replace hx249_0:=(HB.out.cell (World.block_lt_of_cell? w _ hx249_0)).trans hx249_0;replace hx249_1:=(HB.out.cell (World.block_lt_of_cell? w _ hx249_1)).trans hx249_1;replace p249:=eq_true p249;replace q249:=eq_true q249;obtain ⟨Ao17,co17,eo17⟩:=Kd.R_slice HO248.out;subst eo17) | (go_at_call 30;(with_reducible refine (wigwagref07_joined.calls kj4 (fun k_ => some k_ = (.slice Ao17 t246.length co17 : Value).ownBlock) (.slice Ao17 t246.length co17) t246 ((rd_T37 l0 x7_1).f0) ((rd_T37 l0 x7_1).f1) t250 w _ ?side1 ?side2 A13.out).mono ?_);(case side1 => repeat (first | (with_reducible first | exact HB.out | apply below_alloc | apply pw_below_drewN | apply below_drew1 | refine below_set ?_ GE244.out) | exact HB.out));(case side2 => exact Kd.R_tight rfl HO248.out);rintro e w18 ⟨v251,rfl,ho0,hb,hkp⟩;have n0_:=Aside0.mk (blk_kept (by (with_reducible repeat (first | refine blk_drewN ?_ _ | refine blk_drew ?_ | refine blk_alloc ?_ _));exact BK244.out) hkp (fun hs_ => (fun e_ => (Kd.R_away HO248.out (fun _ hk => hk)) e_) hs_));have n1_:=Aside0.mk (Kd.R_mono (ok':=fun k_ => k_ ≠ gb244) ho0 (fun k_ hk_ => Or.elim hk_ (fun hs_ => fun e_ => (Kd.R_away HO248.out (fun _ hk => hk)) (by rw [← e_];exact hs_)) (fun hn_ => (Kd.freshB (g:=gb244) (o:=.cells #[.int .u64 a1_0,.int .u64 a1_1] 37 (0,0)) (by (with_reducible repeat (first | refine blk_drewN ?_ _ | refine blk_drew ?_ | refine blk_alloc ?_ _));exact BK244.out) k_ hn_))));have n2_:=Aside0.mk (hb);clear BK244;clear HB;clear HO248;have BK244:=n0_;have HO252:=n1_;have HB:=n2_;clear n0_ n1_ n2_;(try clear hb);(try clear hkp);(try clear ho0)))
         repeat (go_quiet (first | (go_at_call 30;(with_reducible refine (wigwagref07_joined.calls kj4 (fun k_ => some k_ = (.slice Ao15 x5_1.length co15 : Value).ownBlock) (.slice Ao15 x5_1.length co15) x5_1 a1_0 a1_1 t246 w _ ?side1 ?side2 A10.out).mono ?_);(case side1 => repeat (first | (with_reducible first | exact HB.out | apply below_alloc | apply pw_below_drewN | apply below_drew1 | refine below_set ?_ GE244.out) | exact HB.out));(case side2 => exact Kd.R_tight rfl HO_5.out);rintro e w16 ⟨v247,rfl,ho0,hb,hkp⟩;have n0_:=Aside0.mk (blk_kept (by (with_reducible repeat (first | refine blk_drewN ?_ _ | refine blk_drew ?_ | refine blk_alloc ?_ _));exact BK244.out) hkp (fun hs_ => (fun e_ => (Kd.R_away HO_5.out (fun _ hk => hk)) e_) hs_));have n1_:=Aside0.mk (Kd.R_mono (ok':=fun k_ => k_ ≠ gb244) ho0 (fun k_ hk_ => Or.elim hk_ (fun hs_ => fun e_ => (Kd.R_away HO_5.out (fun _ hk => hk)) (by rw [← e_];exact hs_)) (fun hn_ => (Kd.freshB (g:=gb244) (o:=.cells #[.int .u64 a1_0,.int .u64 a1_1] 37 (0,0)) (by (with_reducible repeat (first | refine blk_drewN ?_ _ | refine blk_drew ?_ | refine blk_alloc ?_ _));exact BK244.out) k_ hn_))));have n2_:=Aside0.mk (hb);clear BK244;clear HB;clear HO_5;have BK244:=n0_;have HO248:=n1_;have HB:=n2_;clear n0_ n1_ n2_;(try clear hb);(try clear hkp);(try clear ho0);have p249 : 0 ≤ (x7_1 : Int):=of_decide_eq_true (by first | (with_reducible assumption) | assumption);have q249 : x7_1 < (l0.length : Int):=of_decide_eq_true (by first | (with_reducible assumption) | assumption);obtain ⟨ad249,e249,hx249_0,hx249_1⟩:=at_T37 HR0.out x7_1 p249 q249;cases e249;replace hx249_0:=(HB.out.cell (World.block_lt_of_cell? w _ hx249_0)).trans hx249_0;replace hx249_1:=(HB.out.cell (World.block_lt_of_cell? w _ hx249_1)).trans hx249_1;replace p249:=eq_true p249;replace q249:=eq_true q249;obtain ⟨Ao17,co17,eo17⟩:=Kd.R_slice HO248.out;subst eo17) | (go_at_call 30;(with_reducible refine (wigwagref07_joined.calls kj4 (fun k_ => some k_ = (.slice Ao17 t246.length co17 : Value).ownBlock) (.slice Ao17 t246.length co17) t246 ((rd_T37 l0 x7_1).f0) ((rd_T37 l0 x7_1).f1) t250 w _ ?side1 ?side2 A13.out).mono ?_);(case side1 => repeat (first | (with_reducible first | exact HB.out | apply below_alloc | apply pw_below_drewN | apply below_drew1 | refine below_set ?_ GE244.out) | exact HB.out));(case side2 => exact Kd.R_tight rfl HO248.out);rintro e w18 ⟨v251,rfl,ho0,hb,hkp⟩;have n0_:=Aside0.mk (blk_kept (by (with_reducible repeat (first | refine blk_drewN ?_ _ | refine blk_drew ?_ | refine blk_alloc ?_ _));exact BK244.out) hkp (fun hs_ => (fun e_ => (Kd.R_away HO248.out (fun _ hk => hk)) e_) hs_));have n1_:=Aside0.mk (Kd.R_mono (ok':=fun k_ => k_ ≠ gb244) ho0 (fun k_ hk_ => Or.elim hk_ (fun hs_ => fun e_ => (Kd.R_away HO248.out (fun _ hk => hk)) (by rw [← e_];exact hs_)) (fun hn_ => (Kd.freshB (g:=gb244) (o:=.cells #[.int .u64 a1_0,.int .u64 a1_1] 37 (0,0)) (by (with_reducible repeat (first | refine blk_drewN ?_ _ | refine blk_drew ?_ | refine blk_alloc ?_ _));exact BK244.out) k_ hn_))));have n2_:=Aside0.mk (hb);clear BK244;clear HB;clear HO248;have BK244:=n0_;have HO252:=n1_;have HB:=n2_;clear n0_ n1_ n2_;(try clear hb);(try clear hkp);(try clear ho0)));try go_wp2_with (first | (go_at_call 30;(with_reducible refine (wigwagref07_joined.calls kj4 (fun k_ => some k_ = (.slice Ao15 x5_1.length co15 : Value).ownBlock) (.slice Ao15 x5_1.length co15) x5_1 a1_0 a1_1 t246 w _ ?side1 ?side2 A10.out).mono ?_);(case side1 => repeat (first | (with_reducible first | exact HB.out | apply below_alloc | apply pw_below_drewN | apply below_drew1 | refine below_set ?_ GE244.out) | exact HB.out));(case side2 => exact Kd.R_tight rfl HO_5.out);rintro e w16 ⟨v247,rfl,ho0,hb,hkp⟩;have n0_:=Aside0.mk (blk_kept (by (with_reducible repeat (first | refine blk_drewN ?_ _ | refine blk_drew ?_ | refine blk_alloc ?_ _));exact BK244.out) hkp (fun hs_ => (fun e_ => (Kd.R_away HO_5.out (fun _ hk => hk)) e_) hs_));have n1_:=Aside0.mk (Kd.R_mono (ok':=fun k_ => k_ ≠ gb244) ho0 (fun k_ hk_ => Or.elim hk_ (fun hs_ => fun e_ => (Kd.R_away HO_5.out (fun _ hk => hk)) (by rw [← e_];exact hs_)) (fun hn_ => (Kd.freshB (g:=gb244) (o:=.cells #[.int .u64 a1_0,.int .u64 a1_1] 37 (0,0)) (by (with_reducible repeat (first | refine blk_drewN ?_ _ | refine blk_drew ?_ | refine blk_alloc ?_ _));exact BK244.out) k_ hn_))));have n2_:=Aside0.mk (hb);clear BK244;clear HB;clear HO_5;have BK244:=n0_;have HO248:=n1_;have HB:=n2_;clear n0_ n1_ n2_;(try clear hb);(try clear hkp);(try clear ho0);have p249 : 0 ≤ (x7_1 : Int):=of_decide_eq_true (by first | (with_reducible assumption) | assumption);have q249 : x7_1 < (l0.length : Int):=of_decide_eq_true (by first | (with_reducible assumption) | assumption);obtain ⟨ad249,e249,hx249_0,hx249_1⟩:=at_T37 HR0.out x7_1 p249 q249;cases e249;replace hx249_0:=(HB.out.cell (World.block_lt_of_cell? w _ hx249_0)).trans hx249_0;replace hx249_1:=(HB.out.cell (World.block_lt_of_cell? w _ hx249_1)).trans hx249_1;replace p249:=eq_true p249;replace q249:=eq_true q249;obtain ⟨Ao17,co17,eo17⟩:=Kd.R_slice HO248.out;subst eo17) | (go_at_call 30;(with_reducible refine (wigwagref07_joined.calls kj4 (fun k_ => some k_ = (.slice Ao17 t246.length co17 : Value).ownBlock) (.slice Ao17 t246.length co17) t246 ((rd_T37 l0 x7_1).f0) ((rd_T37 l0 x7_1).f1) t250 w _ ?side1 ?side2 A13.out).mono ?_);(case side1 => repeat (first | (with_reducible first | exact HB.out | apply below_alloc | apply pw_below_drewN | apply below_drew1 | refine below_set ?_ GE244.out) | exact HB.out));(case side2 => exact Kd.R_tight rfl HO248.out);rintro e w18 ⟨v251,rfl,ho0,hb,hkp⟩;have n0_:=Aside0.mk (blk_kept (by (with_reducible repeat (first | refine blk_drewN ?_ _ | refine blk_drew ?_ | refine blk_alloc ?_ _));exact BK244.out) hkp (fun hs_ => (fun e_ => (Kd.R_away HO248.out (fun _ hk => hk)) e_) hs_));have n1_:=Aside0.mk (Kd.R_mono (ok':=fun k_ => k_ ≠ gb244) ho0 (fun k_ hk_ => Or.elim hk_ (fun hs_ => fun e_ => (Kd.R_away HO248.out (fun _ hk => hk)) (by rw [← e_];exact hs_)) (fun hn_ => (Kd.freshB (g:=gb244) (o:=.cells #[.int .u64 a1_0,.int .u64 a1_1] 37 (0,0)) (by (with_reducible repeat (first | refine blk_drewN ?_ _ | refine blk_drew ?_ | refine blk_alloc ?_ _));exact BK244.out) k_ hn_))));have n2_:=Aside0.mk (hb);clear BK244;clear HB;clear HO248;have BK244:=n0_;have HO252:=n1_;have HB:=n2_;clear n0_ n1_ n2_;(try clear hb);(try clear hkp);(try clear ho0))))
         go_roundg kj4
         case measure => have:=HK1.out;have:=HJ4.out;omega
         case rel => exact ⟨(t250),(true),(wrap64 (x7_1 + 1)),(by first | rfl | (simp;done) | (simp [*];done)),(by first | rfl | (simp;done) | (simp [*];done)),H',⟨by have:=HK1.out;have:=HJ4.out;omega⟩,⟨by (with_reducible repeat (first | apply Kd.R_alloc | apply Kd.R_drewN | apply Kd.R_drew));exact HO252.out⟩,⟨by (with_reducible repeat (first | refine blk_drewN ?_ _ | refine blk_drew ?_ | refine blk_alloc ?_ _));exact BK244.out⟩,⟨by repeat (first | (with_reducible first | exact HB.out | apply below_alloc | apply pw_below_drewN | apply below_drew1 | refine below_set ?_ GE244.out) | exact HB.out)⟩⟩
        ·rw [if_neg c12] at H
         exact absurd H (by simp)
       ·rw [if_neg c11] at H
        exact absurd H (by simp)
      ·replace c9:=Bool.eq_false_iff.mpr c9
       subst c9
       have H1 : (if 0 ≤ x7_1 then (if x7_1 < (l0.length : Int) then ((wigwagref07_joined.f kj4 x5_1 ((rd_T37 l0 x7_1).f0) ((rd_T37 l0 x7_1).f1)).bind fun t254 => (wigwagref07_Add.l0 kj4 l0 t254 x6_1 (wrap64 (x7_1 + 1)) a1_0 a1_1)) else (none)) else (none)) = some r:=by rw [if_neg (show ¬ (false = true) by decide)] at H;exact H
       clear H
       have H:=H1
       clear H1
       by_cases c19 : 0 ≤ x7_1
       ·rw [if_pos c19] at H
        have c19b0 : decide (0 ≤ x7_1) = true:=decide_eq_true c19
        clear c19
        by_cases c20 : x7_1 < (l0.length : Int)
        ·rw [if_pos c20] at H
         have c20b0 : decide (x7_1 < (l0.length : Int)) = true:=decide_eq_true c20
         clear c20
         replace H:=Option.bind_eq_some_iff.mp H
         obtain ⟨t254,A210,H⟩:=H
         replace H : (wigwagref07_Add.l0 kj4 l0 t254 x6_1 (wrap64 (x7_1 + 1)) a1_0 a1_1) = some r:=H
         have A21:=Aside0.mk A210
         clear A210
         have H':=Aside0.mk H
         clear H
         have p253 : 0 ≤ (x7_1 : Int):=of_decide_eq_true (by first | (with_reducible assumption) | assumption)
         have q253 : x7_1 < (l0.length : Int):=of_decide_eq_true (by first | (with_reducible assumption) | assumption)
         obtain ⟨ad253,e253,hx253_0,hx253_1⟩:=at_T37 HR0.out x7_1 p253 q253
         cases e253
         replace hx253_0:=(HB.out.cell (World.block_lt_of_cell? w _ hx253_0)).trans hx253_0
         replace hx253_1:=(HB.out.cell (World.block_lt_of_cell? w _ hx253_1)).trans hx253_1
         replace p253:=eq_true p253
         replace q253:=eq_true q253
         obtain ⟨Ao22,co22,eo22⟩:=Kd.R_slice HO_5.out
         subst eo22
         go_wp2_with (first | (go_at_call 30;(with_reducible refine (wigwagref07_joined.calls kj4 (fun k_ => some k_ = (.slice Ao22 x5_1.length co22 : Value).ownBlock) (.slice Ao22 x5_1.length co22) x5_1 ((rd_T37 l0 x7_1).f0) ((rd_T37 l0 x7_1).f1) t254 w _ ?side1 ?side2 A21.out).mono ?_);(case side1 => repeat (first | (with_reducible first | exact HB.out | apply below_alloc | apply pw_below_drewN | apply below_drew1 | refine below_set ?_ GE244.out) | exact HB.out));(case side2 => exact Kd.R_tight rfl HO_5.out);rintro e w23 ⟨v255,rfl,ho0,hb,hkp⟩;have n0_:=Aside0.mk (blk_kept (by (with_reducible repeat (first | refine blk_drewN ?_ _ | refine blk_drew ?_ | refine blk_alloc ?_ _));exact BK244.out) hkp (fun hs_ => (fun e_ => (Kd.R_away HO_5.out (fun _ hk => hk)) e_) hs_));have n1_:=Aside0.mk (Kd.R_mono (ok':=fun k_ => k_ ≠ gb244) ho0 (fun k_ hk_ => Or.elim hk_ (fun hs_ => fun e_ => (Kd.R_away HO_5.out (fun _ hk => hk)) (by rw [← e_];exact hs_)) (fun hn_ => (Kd.freshB (g:=gb244) (o:=.cells #[.int .u64 a1_0,.int .u64 a1_1] 37 (0,0)) (by (with_reducible repeat (first | refine blk_drewN ?_ _ | refine blk_drew ?_ | refine blk_alloc ?_ _));exact BK244.out) k_ hn_))));have n2_:=Aside0.mk (hb);clear BK244;clear HB;clear HO_5;have BK244:=n0_;have HO256:=n1_;have HB:=n2_;clear n0_ n1_ n2_;(try clear hb);(try clear hkp);(try clear ho0)))
         repeat (go_quiet (first | (go_at_call 30;(with_reducible refine (wigwagref07_joined.calls kj4 (fun k_ => some k_ = (.slice Ao22 x5_1.length co22 : Value).ownBlock) (.slice Ao22 x5_1.length co22) x5_1 ((rd_T37 l0 x7_1).f0) ((rd_T37 l0 x7_1).f1) t254 w _ ?side1 ?side2 A21.out).mono ?_);(case side1 => repeat (first | (with_reducible first | exact HB.out | apply below_alloc | apply pw_below_drewN | apply below_drew1 | refine below_set ?_ GE244.out) | exact HB.out));(case side2 => exact Kd.R_tight rfl HO_5.out);rintro e w23 ⟨v255,rfl,ho0,hb,hkp⟩;have n0_:=Aside0.mk (blk_kept (by (with_reducible repeat (first | refine blk_drewN ?_ _ | refine blk_drew ?_ | refine blk_alloc ?_ _));exact BK244.out) hkp (fun hs_ => (fun e_ => (Kd.R_away HO_5.out (fun _ hk => hk)) e_) hs_));have n1_:=Aside0.mk (Kd.R_mono (ok':=fun k_ => k_ ≠ gb244) ho0 (fun k_ hk_ => Or.elim hk_ (fun hs_ => fun e_ => (Kd.R_away HO_5.out (fun _ hk => hk)) (by rw [← e_];exact hs_)) (fun hn_ => (Kd.freshB (g:=gb244) (o:=.cells #[.int .u64 a1_0,.int .u64 a1_1] 37 (0,0)) (by (with_reducible repeat (first | refine blk_drewN ?_ _ | refine blk_drew ?_ | refine blk_alloc ?_ _));exact BK244.out) k_ hn_))));have n2_:=Aside0.mk (hb);clear BK244;clear HB;clear HO_5;have BK244:=n0_;have HO256:=n1_;have HB:=n2_;clear n0_ n1_ n2_;(try clear hb);(try clear hkp);(try clear ho0)));try go_wp2_with (first | (go_at_call 30;(with_reducible refine (wigwagref07_joined.calls kj4 (fun k_ => some k_ = (.slice Ao22 x5_1.length co22 : Value).ownBlock) (.slice Ao22 x5_1.length co22) x5_1 ((rd_T37 l0 x7_1).f0) ((rd_T37 l0 x7_1).f1) t254 w _ ?side1 ?side2 A21.out).mono ?_);(case side1 => repeat (first | (with_reducible first | exact HB.out | apply below_alloc | apply pw_below_drewN | apply below_drew1 | refine below_set ?_ GE244.out) | exact HB.out));(case side2 => exact Kd.R_tight rfl HO_5.out);rintro e w23 ⟨v255,rfl,ho0,hb,hkp⟩;have n0_:=Aside0.mk (blk_kept (by (with_reducible repeat (first | refine blk_drewN ?_ _ | refine blk_drew ?_ | refine blk_alloc ?_ _));exact BK244.out) hkp (fun hs_ => (fun e_ => (Kd.R_away HO_5.out (fun _ hk => hk)) e_) hs_));have n1_:=Aside0.mk (Kd.R_mono (ok':=fun k_ => k_ ≠ gb244) ho0 (fun k_ hk_ => Or.elim hk_ (fun hs_ => fun e_ => (Kd.R_away HO_5.out (fun _ hk => hk)) (by rw [← e_];exact hs_)) (fun hn_ => (Kd.freshB (g:=gb244) (o:=.cells #[.int .u64 a1_0,.int .u64 a1_1] 37 (0,0)) (by (with_reducible repeat (first | refine blk_drewN ?_ _ | refine blk_drew ?_ | refine blk_alloc ?_ _));exact BK244.out) k_ hn_))));have n2_:=Aside0.mk (hb);clear BK244;clear HB;clear HO_5;have BK244:=n0_;have HO256:=n1_;have HB:=n2_;clear n0_ n1_ n2_;(try clear hb);(try clear hkp);(try clear ho0))))
         go_roundg kj4
         case measure => have:=HK1.out;have:=HJ4.out;omega
         case rel => exact ⟨(t254),(x6_1),(wrap64 (x7_1 + 1)),(by first | rfl | (simp;done) | (simp [*];done)),(by first | rfl | (simp;done) | (simp [*];done)),H',⟨by have:=HK1.out;have:=HJ4.out;omega⟩,⟨by (with_reducible repeat (first | apply Kd.R_alloc | apply Kd.R_drewN | apply Kd.R_drew));exact HO256.out⟩,⟨by (with_reducible repeat (first | refine blk_drewN ?_ _ | refine blk_drew ?_ | refine blk_alloc ?_ _));exact BK244.out⟩,⟨by repeat (first | (with_reducible first | exact HB.out | apply below_alloc | apply pw_below_drewN | apply below_drew1 | refine below_set ?_ GE244.out) | exact HB.out)⟩⟩
        ·rw [if_neg c20] at H
         exact absurd H (by simp)
       ·rw [if_neg c19] at H
        exact absurd H (by simp)
   ·rw [if_neg c4] at H
    have c4b0 : decide (x7_1 < (l0.length : Int)) = false:=decide_eq_false c4
    clear c4
    by_cases c24 : x6_1 = true
    ·subst c24
     have H1 : (some x5_1) = some r:=by rw [if_pos rfl] at H;exact H
     clear H
     have H:=H1
     clear H1
     obtain rfl:=Option.some.inj H
     go_wp2
     repeat (go_quiet (fail);try go_wp2)
     go_ret
     exact ⟨_,by first | rfl | (simp [errW_none,errW_some] <;> rfl) | (simp [*,errW_none,errW_some] <;> rfl),by (with_reducible repeat (first | apply Kd.R_alloc | apply Kd.R_drewN | apply Kd.R_drew));exact Kd.R_mono HO_5.out (fun _ hk => trivial),by repeat (first | (with_reducible first | exact HB.out | apply below_alloc | apply pw_below_drewN | apply below_drew1 | refine below_set ?_ GE244.out) | exact HB.out)⟩
    ·replace c24:=Bool.eq_false_iff.mpr c24
     subst c24
     have H1 : ((wigwagref07_joined.f k1 x5_1 a1_0 a1_1).bind fun t257 => (some t257)) = some r:=by rw [if_neg (show ¬ (false = true) by decide)] at H;exact H
     clear H
     have H:=H1
     clear H1
     replace H:=Option.bind_eq_some_iff.mp H
     obtain ⟨t257,A250,H⟩:=H
     replace H : (some t257) = some r:=H
     have A25:=Aside0.mk A250
     clear A250
     obtain rfl:=Option.some.inj H
     have hcz26_0 : wr.cell? ⟨gb244,0,none⟩ = some (.int .u64 a1_0):=(blk_cell BK244.out 0).trans rfl
     have hcz26_1 : wr.cell? ⟨gb244,1,none⟩ = some (.int .u64 a1_1):=(blk_cell BK244.out 1).trans rfl
     have hfz26_0:=blk_frozen BK244.out 0
     have hfz26_1:=blk_frozen BK244.out 1
     obtain ⟨Ao27,co27,eo27⟩:=Kd.R_slice HO_5.out
     subst eo27
     go_wp2_with (first | (go_at_call 30;(with_reducible refine (wigwagref07_joined.calls k1 (fun k_ => some k_ = (.slice Ao27 x5_1.length co27 : Value).ownBlock) (.slice Ao27 x5_1.length co27) x5_1 a1_0 a1_1 t257 w _ ?side1 ?side2 A25.out).mono ?_);(case side1 => repeat (first | (with_reducible first | exact HB.out | apply below_alloc | apply pw_below_drewN | apply below_drew1 | refine below_set ?_ GE244.out) | exact HB.out));(case side2 => exact Kd.R_tight rfl HO_5.out);rintro e w28 ⟨v258,rfl,ho0,hb,hkp⟩;have n0_:=Aside0.mk (blk_kept (by (with_reducible repeat (first | refine blk_drewN ?_ _ | refine blk_drew ?_ | refine blk_alloc ?_ _));exact BK244.out) hkp (fun hs_ => (fun e_ => (Kd.R_away HO_5.out (fun _ hk => hk)) e_) hs_));have n1_:=Aside0.mk (Kd.R_mono (ok':=fun k_ => k_ ≠ gb244) ho0 (fun k_ hk_ => Or.elim hk_ (fun hs_ => fun e_ => (Kd.R_away HO_5.out (fun _ hk => hk)) (by rw [← e_];exact hs_)) (fun hn_ => (Kd.freshB (g:=gb244) (o:=.cells #[.int .u64 a1_0,.int .u64 a1_1] 37 (0,0)) (by (with_reducible repeat (first | refine blk_drewN ?_ _ | refine blk_drew ?_ | refine blk_alloc ?_ _));exact BK244.out) k_ hn_))));have n2_:=Aside0.mk (hb);clear BK244;clear HB;clear HO_5;have BK244:=n0_;have HO259:=n1_;have HB:=n2_;clear n0_ n1_ n2_;(try clear hb);(try clear hkp);(try clear ho0)))
     repeat (go_quiet (first | (go_at_call 30;(with_reducible refine (wigwagref07_joined.calls k1 (fun k_ => some k_ = (.slice Ao27 x5_1.length co27 : Value).ownBlock) (.slice Ao27 x5_1.length co27) x5_1 a1_0 a1_1 t257 w _ ?side1 ?side2 A25.out).mono ?_);(case side1 => repeat (first | (with_reducible first | exact HB.out | apply below_alloc | apply pw_below_drewN | apply below_drew1 | refine below_set ?_ GE244.out) | exact HB.out));(case side2 => exact Kd.R_tight rfl HO_5.out);rintro e w28 ⟨v258,rfl,ho0,hb,hkp⟩;have n0_:=Aside0.mk (blk_kept (by (with_reducible repeat (first | refine blk_drewN ?_ _ | refine blk_drew ?_ | refine blk_alloc ?_ _));exact BK244.out) hkp (fun hs_ => (fun e_ => (Kd.R_away HO_5.out (fun _ hk => hk)) e_) hs_));have n1_:=Aside0.mk (Kd.R_mono (ok':=fun k_ => k_ ≠ gb244) ho0 (fun k_ hk_ => Or.elim hk_ (fun hs_ => fun e_ => (Kd.R_away HO_5.out (fun _ hk => hk)) (by rw [← e_];exact hs_)) (fun hn_ => (Kd.freshB (g:=gb244) (o:=.cells #[.int .u64 a1_0,.int .u64 a1_1] 37 (0,0)) (by (with_reducible repeat (first | refine blk_drewN ?_ _ | refine blk_drew ?_ | refine blk_alloc ?_ _));exact BK244.out) k_ hn_))));have n2_:=Aside0.mk (hb);clear BK244;clear HB;clear HO_5;have BK244:=n0_;have HO259:=n1_;have HB:=n2_;clear n0_ n1_ n2_;(try clear hb);(try clear hkp);(try clear ho0)));try go_wp2_with (first | (go_at_call 30;(with_reducible refine (wigwagref07_joined.calls k1 (fun k_ => some k_ = (.slice Ao27 x5_1.length co27 : Value).ownBlock) (.slice Ao27 x5_1.length co27) x5_1 a1_0 a1_1 t257 w _ ?side1 ?side2 A25.out).mono ?_);(case side1 => repeat (first | (with_reducible first | exact HB.out | apply below_alloc | apply pw_below_drewN | apply below_drew1 | refine below_set ?_ GE244.out) | exact HB.out));(case side2 => exact Kd.R_tight rfl HO_5.out);rintro e w28 ⟨v258,rfl,ho0,hb,hkp⟩;have n0_:=Aside0.mk (blk_kept (by (with_reducible repeat (first | refine blk_drewN ?_ _ | refine blk_drew ?_ | refine blk_alloc ?_ _));exact BK244.out) hkp (fun hs_ => (fun e_ => (Kd.R_away HO_5.out (fun _ hk => hk)) e_) hs_));have n1_:=Aside0.mk (Kd.R_mono (ok':=fun k_ => k_ ≠ gb244) ho0 (fun k_ hk_ => Or.elim hk_ (fun hs_ => fun e_ => (Kd.R_away HO_5.out (fun _ hk => hk)) (by rw [← e_];exact hs_)) (fun hn_ => (Kd.freshB (g:=gb244) (o:=.cells #[.int .u64 a1_0,.int .u64 a1_1] 37 (0,0)) (by (with_reducible repeat (first | refine blk_drewN ?_ _ | refine blk_drew ?_ | refine blk_alloc ?_ _));exact BK244.out) k_ hn_))));have n2_:=Aside0.mk (hb);clear BK244;clear HB;clear HO_5;have BK244:=n0_;have HO259:=n1_;have HB:=n2_;clear n0_ n1_ n2_;(try clear hb);(try clear hkp);(try clear ho0))))
     go_ret
     exact ⟨_,by first | rfl | (simp [errW_none,errW_some] <;> rfl) | (simp [*,errW_none,errW_some] <;> rfl),by (with_reducible repeat (first | apply Kd.R_alloc | apply Kd.R_drewN | apply Kd.R_drew));exact Kd.R_mono HO259.out (fun _ hk => trivial),by repeat (first | (with_reducible first | exact HB.out | apply below_alloc | apply pw_below_drewN | apply below_drew1 | refine below_set ?_ GE244.out) | exact HB.out)⟩

end Go.Proofs.Ytadhkamocbhbmaa.P
