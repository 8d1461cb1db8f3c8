-- Printed for this claim by xprint.py of this session: contracts of this session's own stand in for what the print does not take
import Derived.Test.YtgaccappklhojaaPx0
namespace Go.Proofs.Ytgaccappklhojaa.P
open Go.RowKit Go.Proofs.YtgaccappklhojaaW.PrintWords Go.Proofs.YtgaccappklhojaaW.PrintLast Go.Proofs.YtgaccappklhojaaW.PrintMore
attribute [local go_sem] max2_int min2_int max_two min_two max_three min_three max_four min_four   -- for this text's walks alone
set_option linter.unusedVariables false
set_option linter.unusedSimpArgs false

/-! ### span_Check: function 12 -/
def span_Check.l0 : Nat → List (S25) → List (S25) → Int → Int → Option (Bool)
 | 0,_,_,_,_ => none
 | k + 1,x0,x5,x6,x7 => if x7 < x6 then (if 0 ≤ x7 then (if x7 < (x5.length : Int) then (if ((rd_T25 x5 x7).f0) ≥ ((rd_T25 x5 x7).f1) then (some false) else (if x7 > 0 then (if 0 ≤ (wrap64 (x7 - 1)) then (if (wrap64 (x7 - 1)) < (x0.length : Int) then (if ((rd_T25 x5 x7).f0) ≤ ((rd_T25 x0 (wrap64 (x7 - 1))).f1) then (some false) else (span_Check.l0 k x0 x5 x6 (wrap64 (x7 + 1)))) else (none)) else (none)) else (span_Check.l0 k x0 x5 x6 (wrap64 (x7 + 1))))) else (none)) else (none)) else (some true)
def span_Check.f (k : Nat) (l0 : List (S25)) : Option (Bool):=span_Check.l0 k l0 l0 (l0.length : Int) 0
theorem span_Check.mono_l : ∀ k,(∀ y0 y1 y2 y3,LeO (span_Check.l0 k y0 y1 y2 y3) (span_Check.l0 (k + 1) y0 y1 y2 y3))
 | 0 => fun _ _ _ _ r h => by simp [span_Check.l0] at h
 | k + 1 => by
  have ih0:=span_Check.mono_l k
  ·intro y0 y1 y2 y3
   unfold span_Check.l0
   repeat' first
   | (with_reducible exact ih0 _ _ _ _)
   | (with_reducible exact LeO.refl _)
   | (with_reducible exact LeO.none _)
   | (with_reducible refine LeO.ite ?_ ?_)
   | (with_reducible refine LeO.bind ?_ (fun _ => ?_))
   | exact ih0 _ _ _ _
   | exact LeO.none _
   | refine LeO.ite ?_ ?_
   | refine LeO.bind ?_ (fun _ => ?_)
theorem span_Check.mono : ∀ a0 k,LeO (span_Check.f k a0) (span_Check.f (k + 1) a0):=by
 intro a0 k
 have ih0:=span_Check.mono_l k
 unfold span_Check.f
 repeat' first
   | (with_reducible exact ih0 _ _ _ _)
   | (with_reducible exact LeO.refl _)
   | (with_reducible exact LeO.none _)
   | (with_reducible refine LeO.ite ?_ ?_)
   | (with_reducible refine LeO.bind ?_ (fun _ => ?_))
   | exact ih0 _ _ _ _
   | exact LeO.none _
   | refine LeO.ite ?_ ?_
   | refine LeO.bind ?_ (fun _ => ?_)
set_option maxHeartbeats 8000000 in
set_option maxRecDepth 100000 in
theorem span_Check.calls (k : Nat) (A0 : Option Addr) (c0 : Nat) (l0 : List (S25)) (r : Bool) (w : World) (hr0 : Kd.C k25 w A0 l0.length l0) (hc0 : l0.length ≤ c0) (h : span_Check.f k l0 = some r) :
  Calls Try.prog 12 #[.slice A0 l0.length c0] w fun e w' => e = .returned (.bool r) ∧ Below w.heap.size w w':=by
 have hu25:=Try.underlying25
 have HR0:=Aside0.mk hr0
 have HC0:=Aside0.mk hc0
 clear hr0 hc0
 have HB:=Aside0.mk (Below.refl w.heap.size w)
 have H : (span_Check.l0 k l0 l0 (l0.length : Int) 0) = some r:=h
 clear h
 have H':=Aside0.mk H
 clear H
 go_enter Try.func12,Try.ntmps12
 go_wp2
 repeat (go_quiet (fail);try go_wp2)
 go_loopg [7] k (fun kq v7 w' => ∃ (x7_1 : Int),v7 = .int .i64 x7_1 ∧ Aside0 (span_Check.l0 kq l0 l0 (l0.length : Int) x7_1 = some r) ∧ Aside0 (kq ≤ k) ∧ Aside0 (Below w.heap.size w w'))
 case atStart => exact ⟨(0),(by first | rfl | (simp;done) | (simp [*];done)),H',⟨Nat.le_refl _⟩,⟨by repeat (first | (with_reducible first | exact HB.out | apply below_alloc | apply pw_below_drewN | apply below_drew1) | exact HB.out)⟩⟩
 case round =>
  clear H'
  try clear c1
  obtain ⟨x7_1,rfl,HA,HK1,HB⟩:=hrel
  cases gk with
  | zero => exact absurd HA.out (by simp [span_Check.l0])
  | succ k1 =>
   have H:=HA.out
   clear HA
   simp only [span_Check.l0] at H
   by_cases c2 : x7_1 < (l0.length : Int)
   ·rw [if_pos c2] at H
    have c2b0 : decide (x7_1 < (l0.length : Int)) = true:=decide_eq_true c2
    clear c2
    by_cases c3 : 0 ≤ x7_1
    ·rw [if_pos c3] at H
     have c3b0 : decide (0 ≤ x7_1) = true:=decide_eq_true c3
     clear c3
     by_cases c4 : x7_1 < (l0.length : Int)
     ·rw [if_pos c4] at H
      have c4b0 : decide (x7_1 < (l0.length : Int)) = true:=decide_eq_true c4
      clear c4
      have HS5:=Aside0.mk H
      clear H
      have p101 : 0 ≤ (x7_1 : Int):=of_decide_eq_true (by first | (with_reducible assumption) | assumption)
      have q101 : x7_1 < (l0.length : Int):=of_decide_eq_true (by first | (with_reducible assumption) | assumption)
      obtain ⟨ad101,e101,hx101_0,hx101_1⟩:=at_T25 HR0.out x7_1 p101 q101
      cases e101
      replace hx101_0:=(HB.out.cell (World.block_lt_of_cell? w _ hx101_0)).trans hx101_0
      replace hx101_1:=(HB.out.cell (World.block_lt_of_cell? w _ hx101_1)).trans hx101_1
      replace p101:=eq_true p101
      replace q101:=eq_true q101
      go_upto_region 4 with (first | ((with_reducible refine gate_dst (N:=4) rfl ?_);refine box_event ?hg (N:=4) ?hd (cs:=#[.int .u64 0,.int .u64 0]) (t:=25) ?hr ?_;(case hd => rfl);(case hg => rfl);(case hr => first | (go_simp;done) | (go_simp;rfl));intro gb102 hg w6 hbox hb;have n0_:=Aside0.mk (below_step (by repeat (first | (with_reducible first | exact HB.out | apply below_alloc | apply pw_below_drewN | apply below_drew1) | exact HB.out)) hb);have n1_:=Aside0.mk (hbox);have n2_:=Aside0.mk ((by rw [hg];exact (below_size (by repeat (first | (with_reducible first | exact HB.out | apply below_alloc | apply pw_below_drewN | apply below_drew1) | exact HB.out))) : w.heap.size ≤ gb102));have n3_:=Aside0.mk ((by rw [hg];exact (below_size (by repeat (first | (with_reducible first | exact HB.out | apply below_alloc | apply pw_below_drewN | apply below_drew1) | exact HB.out))) : w.heap.size ≤ gb102));clear HB;have HB:=n0_;have BK102:=n1_;have GW102:=n2_;have GE102:=n3_;clear n0_ n1_ n2_ n3_;clear hb hbox hg;have hcz7_0 : w6.cell? ⟨gb102,0,none⟩ = some (.int .u64 0):=(blk_cell BK102.out 0).trans rfl;have hcz7_1 : w6.cell? ⟨gb102,1,none⟩ = some (.int .u64 0):=(blk_cell BK102.out 1).trans rfl;have hfz7_0:=blk_frozen BK102.out 0;have hfz7_1:=blk_frozen BK102.out 1))
      repeat (go_quiet (first | ((with_reducible refine gate_dst (N:=4) rfl ?_);refine box_event ?hg (N:=4) ?hd (cs:=#[.int .u64 0,.int .u64 0]) (t:=25) ?hr ?_;(case hd => rfl);(case hg => rfl);(case hr => first | (go_simp;done) | (go_simp;rfl));intro gb102 hg w6 hbox hb;have n0_:=Aside0.mk (below_step (by repeat (first | (with_reducible first | exact HB.out | apply below_alloc | apply pw_below_drewN | apply below_drew1) | exact HB.out)) hb);have n1_:=Aside0.mk (hbox);have n2_:=Aside0.mk ((by rw [hg];exact (below_size (by repeat (first | (with_reducible first | exact HB.out | apply below_alloc | apply pw_below_drewN | apply below_drew1) | exact HB.out))) : w.heap.size ≤ gb102));have n3_:=Aside0.mk ((by rw [hg];exact (below_size (by repeat (first | (with_reducible first | exact HB.out | apply below_alloc | apply pw_below_drewN | apply below_drew1) | exact HB.out))) : w.heap.size ≤ gb102));clear HB;have HB:=n0_;have BK102:=n1_;have GW102:=n2_;have GE102:=n3_;clear n0_ n1_ n2_ n3_;clear hb hbox hg;have hcz7_0 : w6.cell? ⟨gb102,0,none⟩ = some (.int .u64 0):=(blk_cell BK102.out 0).trans rfl;have hcz7_1 : w6.cell? ⟨gb102,1,none⟩ = some (.int .u64 0):=(blk_cell BK102.out 1).trans rfl;have hfz7_0:=blk_frozen BK102.out 0;have hfz7_1:=blk_frozen BK102.out 1));go_upto_region 4 with (first | ((with_reducible refine gate_dst (N:=4) rfl ?_);refine box_event ?hg (N:=4) ?hd (cs:=#[.int .u64 0,.int .u64 0]) (t:=25) ?hr ?_;(case hd => rfl);(case hg => rfl);(case hr => first | (go_simp;done) | (go_simp;rfl));intro gb102 hg w6 hbox hb;have n0_:=Aside0.mk (below_step (by repeat (first | (with_reducible first | exact HB.out | apply below_alloc | apply pw_below_drewN | apply below_drew1) | exact HB.out)) hb);have n1_:=Aside0.mk (hbox);have n2_:=Aside0.mk ((by rw [hg];exact (below_size (by repeat (first | (with_reducible first | exact HB.out | apply below_alloc | apply pw_below_drewN | apply below_drew1) | exact HB.out))) : w.heap.size ≤ gb102));have n3_:=Aside0.mk ((by rw [hg];exact (below_size (by repeat (first | (with_reducible first | exact HB.out | apply below_alloc | apply pw_below_drewN | apply below_drew1) | exact HB.out))) : w.heap.size ≤ gb102));clear HB;have HB:=n0_;have BK102:=n1_;have GW102:=n2_;have GE102:=n3_;clear n0_ n1_ n2_ n3_;clear hb hbox hg;have hcz7_0 : w6.cell? ⟨gb102,0,none⟩ = some (.int .u64 0):=(blk_cell BK102.out 0).trans rfl;have hcz7_1 : w6.cell? ⟨gb102,1,none⟩ = some (.int .u64 0):=(blk_cell BK102.out 1).trans rfl;have hfz7_0:=blk_frozen BK102.out 0;have hfz7_1:=blk_frozen BK102.out 1)))
      (try simp only [Act.put,List.setIfInBounds_toArray,List.set_cons_zero,List.set_cons_succ])
      have H:=HS5.out
      clear HS5
      by_cases c8 : ((rd_T25 l0 x7_1).f0) ≥ ((rd_T25 l0 x7_1).f1)
      ·rw [if_pos c8] at H
       have c8b0 : decide (((rd_T25 l0 x7_1).f1) ≤ ((rd_T25 l0 x7_1).f0)) = true:=decide_eq_true c8
       clear c8
       obtain rfl:=Option.some.inj H
       have hcz9_0 : w6.cell? ⟨gb102,0,none⟩ = some (.int .u64 0):=(blk_cell BK102.out 0).trans rfl
       have hcz9_1 : w6.cell? ⟨gb102,1,none⟩ = some (.int .u64 0):=(blk_cell BK102.out 1).trans rfl
       have hfz9_0:=blk_frozen BK102.out 0
       have hfz9_1:=blk_frozen BK102.out 1
       go_wp2
       repeat (go_quiet (fail);try go_wp2)
       go_ret
       exact ⟨by first | rfl | (simp [errW_none,errW_some] <;> rfl) | (simp [*,errW_none,errW_some] <;> rfl),by repeat (first | (with_reducible first | exact HB.out | apply below_alloc | apply pw_below_drewN | apply below_drew1 | refine below_set ?_ GE102.out) | exact HB.out)⟩
      ·rw [if_neg c8] at H
       have c8b0 : decide (((rd_T25 l0 x7_1).f1) ≤ ((rd_T25 l0 x7_1).f0)) = false:=decide_eq_false c8
       clear c8
       by_cases c10 : x7_1 > 0
       ·rw [if_pos c10] at H
        have c10b0 : decide (0 < x7_1) = true:=decide_eq_true c10
        clear c10
        obtain ⟨ji11,hji11⟩ : ∃ j_ : Int,(wrap64 (x7_1 - 1)) = j_:=⟨_,rfl⟩
        replace H : (if 0 ≤ (ji11) then (if (ji11) < (l0.length : Int) then (if ((rd_T25 l0 x7_1).f0) ≤ ((rd_T25 l0 (ji11)).f1) then (some false) else (span_Check.l0 k1 l0 l0 (l0.length : Int) (wrap64 (x7_1 + 1)))) else (none)) else (none)) = some r:=by first | (rw [hji11] at H;exact H) | (simp only [hji11] at H ⊢;exact H)
        have hji11w : (IntKind.i64.wrap (x7_1 - 1)) = ji11:=(i64_w _).trans hji11
        by_cases c12 : 0 ≤ (ji11)
        ·rw [if_pos c12] at H
         have c12b0 : decide (0 ≤ (ji11)) = true:=decide_eq_true c12
         clear c12
         by_cases c13 : (ji11) < (l0.length : Int)
         ·rw [if_pos c13] at H
          have c13b0 : decide ((ji11) < (l0.length : Int)) = true:=decide_eq_true c13
          clear c13
          by_cases c14 : ((rd_T25 l0 x7_1).f0) ≤ ((rd_T25 l0 (ji11)).f1)
          ·rw [if_pos c14] at H
           have c14b0 : decide (((rd_T25 l0 x7_1).f0) ≤ ((rd_T25 l0 (ji11)).f1)) = true:=decide_eq_true c14
           clear c14
           obtain rfl:=Option.some.inj H
           have hcz15_0 : w6.cell? ⟨gb102,0,none⟩ = some (.int .u64 0):=(blk_cell BK102.out 0).trans rfl
           have hcz15_1 : w6.cell? ⟨gb102,1,none⟩ = some (.int .u64 0):=(blk_cell BK102.out 1).trans rfl
           have hfz15_0:=blk_frozen BK102.out 0
           have hfz15_1:=blk_frozen BK102.out 1
           have p103 : 0 ≤ ((ji11) : Int):=of_decide_eq_true (by first | (with_reducible assumption) | assumption)
           have q103 : (ji11) < (l0.length : Int):=of_decide_eq_true (by first | (with_reducible assumption) | assumption)
           obtain ⟨ad103,e103,hx103_0,hx103_1⟩:=at_T25 HR0.out (ji11) p103 q103
           cases e103
           have hn103_0 : ad101.block ≠ gb102:=Nat.ne_of_lt (Nat.lt_of_lt_of_le (by have:=World.block_lt_of_cell? _ _ hx103_0;first | rwa [add_block] at this | exact this) GW102.out)
           have hn103_1 : ad101.block ≠ gb102:=Nat.ne_of_lt (Nat.lt_of_lt_of_le (by have:=World.block_lt_of_cell? _ _ hx103_0;first | rwa [add_block] at this | exact this) GW102.out)
           replace hx103_0:=(HB.out.cell (World.block_lt_of_cell? w _ hx103_0)).trans hx103_0
           replace hx103_1:=(HB.out.cell (World.block_lt_of_cell? w _ hx103_1)).trans hx103_1
           replace hx103_0:=(cell_far (p:=⟨gb102,0,none⟩) (by first | (rw [add_block];exact hn103_0) | (show (Addr.add _ _).block ≠ _;rw [add_block];exact hn103_0) | exact hn103_0) (.int .u64 ((rd_T25 l0 x7_1).f0))).trans hx103_0
           replace hx103_1:=(cell_far (p:=⟨gb102,0,none⟩) (by first | (rw [add_block];exact hn103_0) | (show (Addr.add _ _).block ≠ _;rw [add_block];exact hn103_0) | exact hn103_0) (.int .u64 ((rd_T25 l0 x7_1).f0))).trans hx103_1
           replace hx103_0:=(cell_far (p:=⟨gb102,1,none⟩) (by first | (rw [add_block];exact hn103_1) | (show (Addr.add _ _).block ≠ _;rw [add_block];exact hn103_1) | exact hn103_1) (.int .u64 ((rd_T25 l0 x7_1).f1))).trans hx103_0
           replace hx103_1:=(cell_far (p:=⟨gb102,1,none⟩) (by first | (rw [add_block];exact hn103_1) | (show (Addr.add _ _).block ≠ _;rw [add_block];exact hn103_1) | exact hn103_1) (.int .u64 ((rd_T25 l0 x7_1).f1))).trans hx103_1
           (try have hy103_0:=fun (n_ : Nat) => (show ((((w6.drewN n_).setCell ⟨gb102,0,none⟩ (.int .u64 ((rd_T25 l0 x7_1).f0))).setCell ⟨gb102,1,none⟩ (.int .u64 ((rd_T25 l0 x7_1).f1)))).cell? _ = some _ from hx103_0))
           (try have hy103_1:=fun (n_ : Nat) => (show ((((w6.drewN n_).setCell ⟨gb102,0,none⟩ (.int .u64 ((rd_T25 l0 x7_1).f0))).setCell ⟨gb102,1,none⟩ (.int .u64 ((rd_T25 l0 x7_1).f1)))).cell? _ = some _ from hx103_1))
           clear hn103_0
           clear hn103_1
           replace p103:=eq_true p103
           replace q103:=eq_true q103
           go_wp2
           repeat (go_quiet (fail);try go_wp2)
           go_ret
           exact ⟨by first | rfl | (simp [errW_none,errW_some] <;> rfl) | (simp only [← hji11];first | rfl | (simp [errW_none,errW_some] <;> rfl)) | (simp [*,errW_none,errW_some] <;> rfl),by repeat (first | (with_reducible first | exact HB.out | apply below_alloc | apply pw_below_drewN | apply below_drew1 | refine below_set ?_ GE102.out) | exact HB.out)⟩
          ·rw [if_neg c14] at H
           have c14b0 : decide (((rd_T25 l0 x7_1).f0) ≤ ((rd_T25 l0 (ji11)).f1)) = false:=decide_eq_false c14
           clear c14
           have H':=Aside0.mk H
           clear H
           have hcz16_0 : w6.cell? ⟨gb102,0,none⟩ = some (.int .u64 0):=(blk_cell BK102.out 0).trans rfl
           have hcz16_1 : w6.cell? ⟨gb102,1,none⟩ = some (.int .u64 0):=(blk_cell BK102.out 1).trans rfl
           have hfz16_0:=blk_frozen BK102.out 0
           have hfz16_1:=blk_frozen BK102.out 1
           have p103 : 0 ≤ ((ji11) : Int):=of_decide_eq_true (by first | (with_reducible assumption) | assumption)
           have q103 : (ji11) < (l0.length : Int):=of_decide_eq_true (by first | (with_reducible assumption) | assumption)
           obtain ⟨ad103,e103,hx103_0,hx103_1⟩:=at_T25 HR0.out (ji11) p103 q103
           cases e103
           have hn103_0 : ad101.block ≠ gb102:=Nat.ne_of_lt (Nat.lt_of_lt_of_le (by have:=World.block_lt_of_cell? _ _ hx103_0;first | rwa [add_block] at this | exact this) GW102.out)
           have hn103_1 : ad101.block ≠ gb102:=Nat.ne_of_lt (Nat.lt_of_lt_of_le (by have:=World.block_lt_of_cell? _ _ hx103_0;first | rwa [add_block] at this | exact this) GW102.out)
           replace hx103_0:=(HB.out.cell (World.block_lt_of_cell? w _ hx103_0)).trans hx103_0
           replace hx103_1:=(HB.out.cell (World.block_lt_of_cell? w _ hx103_1)).trans hx103_1
           replace hx103_0:=(cell_far (p:=⟨gb102,0,none⟩) (by first | (rw [add_block];exact hn103_0) | (show (Addr.add _ _).block ≠ _;rw [add_block];exact hn103_0) | exact hn103_0) (.int .u64 ((rd_T25 l0 x7_1).f0))).trans hx103_0
           replace hx103_1:=(cell_far (p:=⟨gb102,0,none⟩) (by first | (rw [add_block];exact hn103_0) | (show (Addr.add _ _).block ≠ _;rw [add_block];exact hn103_0) | exact hn103_0) (.int .u64 ((rd_T25 l0 x7_1).f0))).trans hx103_1
           replace hx103_0:=(cell_far (p:=⟨gb102,1,none⟩) (by first | (rw [add_block];exact hn103_1) | (show (Addr.add _ _).block ≠ _;rw [add_block];exact hn103_1) | exact hn103_1) (.int .u64 ((rd_T25 l0 x7_1).f1))).trans hx103_0
           replace hx103_1:=(cell_far (p:=⟨gb102,1,none⟩) (by first | (rw [add_block];exact hn103_1) | (show (Addr.add _ _).block ≠ _;rw [add_block];exact hn103_1) | exact hn103_1) (.int .u64 ((rd_T25 l0 x7_1).f1))).trans hx103_1
           (try have hy103_0:=fun (n_ : Nat) => (show ((((w6.drewN n_).setCell ⟨gb102,0,none⟩ (.int .u64 ((rd_T25 l0 x7_1).f0))).setCell ⟨gb102,1,none⟩ (.int .u64 ((rd_T25 l0 x7_1).f1)))).cell? _ = some _ from hx103_0))
           (try have hy103_1:=fun (n_ : Nat) => (show ((((w6.drewN n_).setCell ⟨gb102,0,none⟩ (.int .u64 ((rd_T25 l0 x7_1).f0))).setCell ⟨gb102,1,none⟩ (.int .u64 ((rd_T25 l0 x7_1).f1)))).cell? _ = some _ from hx103_1))
           clear hn103_0
           clear hn103_1
           replace p103:=eq_true p103
           replace q103:=eq_true q103
           go_wp2
           repeat (go_quiet (fail);try go_wp2)
           go_roundg k1
           case measure => have:=HK1.out;omega
           case rel => exact ⟨(wrap64 (x7_1 + 1)),(by first | rfl | (simp;done) | (simp [*];done)),H',⟨by have:=HK1.out;omega⟩,⟨by repeat (first | (with_reducible first | exact HB.out | apply below_alloc | apply pw_below_drewN | apply below_drew1 | refine below_set ?_ GE102.out) | exact HB.out)⟩⟩
         ·rw [if_neg c13] at H
          exact absurd H (by simp)
        ·rw [if_neg c12] at H
         exact absurd H (by simp)
       ·rw [if_neg c10] at H
        have c10b0 : decide (0 < x7_1) = false:=decide_eq_false c10
        clear c10
        have H':=Aside0.mk H
        clear H
        have hcz17_0 : w6.cell? ⟨gb102,0,none⟩ = some (.int .u64 0):=(blk_cell BK102.out 0).trans rfl
        have hcz17_1 : w6.cell? ⟨gb102,1,none⟩ = some (.int .u64 0):=(blk_cell BK102.out 1).trans rfl
        have hfz17_0:=blk_frozen BK102.out 0
        have hfz17_1:=blk_frozen BK102.out 1
        go_wp2
        repeat (go_quiet (fail);try go_wp2)
        go_roundg k1
        case measure => have:=HK1.out;omega
        case rel => exact ⟨(wrap64 (x7_1 + 1)),(by first | rfl | (simp;done) | (simp [*];done)),H',⟨by have:=HK1.out;omega⟩,⟨by repeat (first | (with_reducible first | exact HB.out | apply below_alloc | apply pw_below_drewN | apply below_drew1 | refine below_set ?_ GE102.out) | exact HB.out)⟩⟩
     ·rw [if_neg c4] at H
      exact absurd H (by simp)
    ·rw [if_neg c3] at H
     exact absurd H (by simp)
   ·rw [if_neg c2] at H
    have c2b0 : decide (x7_1 < (l0.length : Int)) = false:=decide_eq_false c2
    clear c2
    obtain rfl:=Option.some.inj H
    go_wp2
    repeat (go_quiet (fail);try go_wp2)
    go_ret
    exact ⟨by first | rfl | (simp [errW_none,errW_some] <;> rfl) | (simp [*,errW_none,errW_some] <;> rfl),by repeat (first | (with_reducible first | exact HB.out | apply below_alloc | apply pw_below_drewN | apply below_drew1) | exact HB.out)⟩

-- NOT PRINTED: function 33 (api_Span_33)

-- NOT PRINTED: function 27 (api_Span_27)

end Go.Proofs.Ytgaccappklhojaa.P
