-- Printed for this claim by xprint.py of this session: contracts of this session's own stand in for what the print does not take
import Derived.Test.YtadhkamocbhbmaaPx0
import Derived.Test.YtadhkamocbhbmaaPx6
import Derived.Test.YtadhkamocbhbmaaPx13
import Derived.Test.YtadhkamocbhbmaaPx15
import Derived.Test.YtadhkamocbhbmaaPx17
import Derived.Test.YtadhkamocbhbmaaPx19
import Derived.Test.YtadhkamocbhbmaaPx20
namespace Go.Proofs.Ytadhkamocbhbmaa.P
open Go.RowKit Go.Proofs.YtadhkamocbhbmaaW.PrintWords Go.Proofs.YtadhkamocbhbmaaW.PrintLast Go.Proofs.YtadhkamocbhbmaaW.PrintMore
attribute [local go_sem] max2_int min2_int max_two min_two max_three min_three max_four min_four   -- for this text's walks alone
set_option linter.unusedVariables false
set_option linter.unusedSimpArgs false

/-! ### wigwaglaw18_SupplyOwn: function 3 -/
section
variable {α : Type} {d : Kd α} {e t base g k : Nat} {ok : Nat → Prop} {w W W1 : World} {v a0 a1 a2 a3 a4 a5 a6 : Value} {xs : List α} {cs : Array Value}
theorem size7 (hw : set7 W g a0 a1 a2 a3 a4 a5 a6 = W1) : W.heap.size = W1.heap.size:=by rw [← hw];simp [set7,World.setCell]
theorem size3 (hw : set3 W g a0 a1 a2 = W1) : W.heap.size = W1.heap.size:=by rw [← hw];simp [set3,World.setCell]
theorem V3o (hw : set3 W g a0 a1 a2 = W1) (hok : ∀ k,ok k → k ≠ g) (h : Kd.V d e W base ok v xs) : Kd.V d e W1 base ok v xs:=by
 rw [← hw]
 exact Kd.V_far (p:=⟨g,2,none⟩) (Kd.V_far (p:=⟨g,1,none⟩) (Kd.V_far (p:=⟨g,0,none⟩) h hok a0) hok a1) hok a2
theorem R3o (hw : set3 W g a0 a1 a2 = W1) (hok : ∀ k,ok k → k ≠ g) (h : Kd.R d e W base ok v xs) : Kd.R d e W1 base ok v xs:=by
 rw [← hw]
 exact Kd.R_far (p:=⟨g,2,none⟩) (Kd.R_far (p:=⟨g,1,none⟩) (Kd.R_far (p:=⟨g,0,none⟩) h hok a0) hok a1) hok a2
theorem V7o (hw : set7 W g a0 a1 a2 a3 a4 a5 a6 = W1) (hok : ∀ k,ok k → k ≠ g) (h : Kd.V d e W base ok v xs) : Kd.V d e W1 base ok v xs:=by
 rw [← hw]
 exact Kd.V_far (p:=⟨g,6,none⟩) (Kd.V_far (p:=⟨g,5,none⟩) (Kd.V_far (p:=⟨g,4,none⟩) (Kd.V_far (p:=⟨g,3,none⟩) (Kd.V_far (p:=⟨g,2,none⟩) (Kd.V_far (p:=⟨g,1,none⟩) (Kd.V_far (p:=⟨g,0,none⟩) h hok a0) hok a1) hok a2) hok a3) hok a4) hok a5) hok a6
theorem R7o (hw : set7 W g a0 a1 a2 a3 a4 a5 a6 = W1) (hok : ∀ k,ok k → k ≠ g) (h : Kd.R d e W base ok v xs) : Kd.R d e W1 base ok v xs:=by
 rw [← hw]
 exact Kd.R_far (p:=⟨g,6,none⟩) (Kd.R_far (p:=⟨g,5,none⟩) (Kd.R_far (p:=⟨g,4,none⟩) (Kd.R_far (p:=⟨g,3,none⟩) (Kd.R_far (p:=⟨g,2,none⟩) (Kd.R_far (p:=⟨g,1,none⟩) (Kd.R_far (p:=⟨g,0,none⟩) h hok a0) hok a1) hok a2) hok a3) hok a4) hok a5) hok a6
end
theorem len_lt {α : Type} {d : Kd α} {e base : Nat} {ok : Nat → Prop} {W : World} {A : Option Addr} {c : Nat} {xs : List α} (h : Kd.R d e W base ok (.slice A xs.length c) xs) : xs.length ≤ 9223372036854775807:=(Kd.C_max (Kd.R_reads' h).2.2)
/-- What is made of a text: as it is written,once and twice,told,come,lost;each is as itself. -/
def wigwaglaw18_SupplyOwn.f (k : Nat) (l0 : List Int) (a1 : Int) : Option Bool :=
 if (l0.length : Int) > 300 then some true else if a1 < 1 then some true else
 if l0.length < 140737488355328 then
 (supply_Write.f k 0 [] [] [] false false false l0).bind fun s => (supply_Write.f k s.1 s.2.1 s.2.2.1 s.2.2.2.1 s.2.2.2.2.1 s.2.2.2.2.2.1 s.2.2.2.2.2.2.1 l0).bind fun t => (supply_Next_own.f t.1 t.2.1 t.2.2.1 t.2.2.2.1 t.2.2.2.2.1 t.2.2.2.2.2.1 t.2.2.2.2.2.2.1 a1 1048576).bind fun u =>
 (supply_Came.f k u.1 u.2.1 u.2.2.1 u.2.2.2.1 u.2.2.2.2.1 u.2.2.2.2.2.1 u.2.2.2.2.2.2.1 u.2.2.2.2.2.2.2.1 u.2.2.2.2.2.2.2.2.1 u.2.2.2.2.2.2.2.2.2.1).bind fun v => (supply_Lost.f k u.1 u.2.1 u.2.2.1 u.2.2.2.1 u.2.2.2.2.1 u.2.2.2.2.2.1 u.2.2.2.2.2.2.1 u.2.2.2.2.2.2.2.1 u.2.2.2.2.2.2.2.2.1 u.2.2.2.2.2.2.2.2.2.1).bind fun x =>
 (wigwagref18_Same.f k s.1 s.2.1 s.2.2.1 s.2.2.2.1 s.2.2.2.2.1 s.2.2.2.2.2.1 s.2.2.2.2.2.2.1 s.1 s.2.1 s.2.2.1 s.2.2.2.1 s.2.2.2.2.1 s.2.2.2.2.2.1 s.2.2.2.2.2.2.1).bind fun b1 => (wigwagref18_Same.f k u.1 u.2.1 u.2.2.1 u.2.2.2.1 u.2.2.2.2.1 u.2.2.2.2.2.1 u.2.2.2.2.2.2.1 u.1 u.2.1 u.2.2.1 u.2.2.2.1 u.2.2.2.2.1 u.2.2.2.2.2.1 u.2.2.2.2.2.2.1).bind fun b2 => (wigwagref18_Same.f k v.1 v.2.1 v.2.2.1 v.2.2.2.1 v.2.2.2.2.1 v.2.2.2.2.2.1 v.2.2.2.2.2.2 v.1 v.2.1 v.2.2.1 v.2.2.2.1 v.2.2.2.2.1 v.2.2.2.2.2.1 v.2.2.2.2.2.2).bind fun b3 => if b1 = true ∧ b2 = true ∧ b3 = true then some true else none
 else none
set_option maxHeartbeats 8000000 in
set_option maxRecDepth 100000 in
theorem wigwaglaw18_SupplyOwn.calls (k : Nat) (A0 : Option Addr) (c0 : Nat) (l0 : List Int) (a1 : Int) (r : Bool) (w : World) (hr0 : Kd.C (Kd.int .u8) w A0 l0.length l0) (hc0 : l0.length ≤ c0) (h : wigwaglaw18_SupplyOwn.f k l0 a1 = some r) :
  Calls Try.prog 3 #[.slice A0 l0.length c0,.int .i64 a1] w fun e w' => e = .returned (.bool r) ∧ Below w.heap.size w w':=by
 have HR0:=Aside0.mk hr0
 have HC0:=Aside0.mk hc0
 have HB:=Aside0.mk (Below.refl w.heap.size w)
 clear hr0 hc0
 unfold wigwaglaw18_SupplyOwn.f at h
 by_cases c1 : (l0.length : Int) > 300
 case pos =>
  rw [if_pos c1] at h
  obtain rfl:=Option.some.inj h
  have k0 : decide ((l0.length : Int) > 300) = true:=decide_eq_true c1
  have k1 : decide ((300 : Int) < (l0.length : Int)) = true:=decide_eq_true c1
  have k2 : decide (300 < l0.length) = true:=decide_eq_true (by omega)
  clear c1 h
  go_enter Try.func3,Try.ntmps3
  go_wp2_with (go_at_call 8;refine (wigwaglaw18_awake.calls true _ rfl).mono ?_;rintro e_ w1 ⟨rfl,hb⟩;have HB2:=Aside0.mk (below_step HB.out hb);clear HB hb;have HB:=HB2;clear HB2)
  go_ret
  exact ⟨rfl,HB.out⟩
 rw [if_neg c1] at h
 have k0 : decide ((l0.length : Int) > 300) = false:=decide_eq_false c1
 have k1 : decide ((300 : Int) < (l0.length : Int)) = false:=decide_eq_false c1
 have k2 : decide (300 < l0.length) = false:=decide_eq_false (by omega)
 by_cases c2 : a1 < 1
 case pos =>
  rw [if_pos c2] at h
  obtain rfl:=Option.some.inj h
  have k3 : decide (a1 < 1) = true:=decide_eq_true c2
  clear c1 c2 h
  go_enter Try.func3,Try.ntmps3
  go_wp2_with (go_at_call 8;refine (wigwaglaw18_awake.calls true _ rfl).mono ?_;rintro e_ w1 ⟨rfl,hb⟩;have HB2:=Aside0.mk (below_step HB.out hb);clear HB hb;have HB:=HB2;clear HB2)
  go_ret
  exact ⟨rfl,HB.out⟩
 rw [if_neg c2] at h
 have k3 : decide (a1 < 1) = false:=decide_eq_false c2
 by_cases c3 : l0.length < 140737488355328
 case neg => rw [if_neg c3] at h;cases h
 rw [if_pos c3] at h
 have HL:=Aside0.mk c3
 clear c1 c2 c3
 obtain ⟨⟨b1,d1,t1,c1,f1,g1_,h1,e1⟩,P1,h⟩:=Option.bind_eq_some_iff.mp h
 obtain ⟨⟨b2,d2,t2,c2,f2,g2_,h2,e2⟩,P2,h⟩:=Option.bind_eq_some_iff.mp h
 obtain ⟨⟨b3,d3,t3,c3,f3,g3_,h3,off,m3,cf,is_⟩,P3,h⟩:=Option.bind_eq_some_iff.mp h
 obtain ⟨⟨b4,d4,t4,c4,f4,g4_,h4⟩,P4,h⟩:=Option.bind_eq_some_iff.mp h
 obtain ⟨⟨b5,d5,t5,c5,f5,g5_,h5⟩,P5,h⟩:=Option.bind_eq_some_iff.mp h
 obtain ⟨y6,P6,h⟩:=Option.bind_eq_some_iff.mp h
 obtain ⟨y7,P7,h⟩:=Option.bind_eq_some_iff.mp h
 obtain ⟨y8,P8,h⟩:=Option.bind_eq_some_iff.mp h
 by_cases c4 : y6 = true ∧ y7 = true ∧ y8 = true
 case neg => rw [if_neg c4] at h;cases h
 rw [if_pos c4] at h
 obtain rfl:=Option.some.inj h
 obtain ⟨rfl,rfl,rfl⟩:=c4
 replace P1:=Aside0.mk P1
 replace P2:=Aside0.mk P2
 replace P3:=Aside0.mk P3
 replace P4:=Aside0.mk P4
 replace P5:=Aside0.mk P5
 replace P6:=Aside0.mk P6
 replace P7:=Aside0.mk P7
 replace P8:=Aside0.mk P8
 clear h
 go_enter Try.func3,Try.ntmps3
 go_upto_region 4 with (go_at_call 8;refine (wigwaglaw18_awake.calls true _ rfl).mono ?_;rintro e_ w1 ⟨rfl,hb⟩;have HB2:=Aside0.mk (below_step HB.out hb);clear HB hb;have HB:=HB2;clear HB2)
 have HCH : Aside0 (w.heap.size ≤ w.heap.size):=⟨Nat.le_refl _⟩
 have HS : Aside0 (w.heap.size ≤ w1.heap.size):=⟨HB.out.size⟩
 go_upto_region 5 with (first
  | ((with_reducible refine gate_dst (N:=38) rfl ?_);refine Kd.R_lit (Kd.int .u8) _ 5 ?hg (N:=38) ?hd (xs:=([] : List Int)) (inner:=[]) (ok:=fun _ => True) (okp:=fun _ => True) ?hr ?hp (fun _ hk => hk) trivial (Below.refl _ _) (Nat.le_refl _) (by simp) ?_;(case hd => rfl);(case hg => rfl);(case hr => first | (go_simp;done) | (go_simp;rfl));(case hp => exact (Reps.none _ _));intro v38 w2 ho4 hb hg_ hnew_;have OL:=Aside0.mk (Kd.R_lower ho4 HB.out.size);have n1_:=Aside0.mk (below_step HB.out hb);have n2_:=Aside0.mk ((Nat.le_trans (show _ ≤ _ from HS.out) hb.size : w.heap.size ≤ w2.heap.size));clear HB HS;have HB:=n1_;have HS:=n2_;clear n1_ n2_;clear hg_ hnew_ hb ho4)
  | ((with_reducible refine gate_builtin (b:=.append) (xs:=#[.tmp 38,.tmp 39]) rfl ?_);at_builtin;refine Kd.R_append_rows (Kd.int .u8) (w0:=w) w.heap.size rfl (.tmp 38) (.tmp 39) 22 5 (.int .u8 0) 1 rfl Try.underlying22 info5 rfl (by decide) (by omega) v38 [] l0 _ _ _ (fun _ => True) (fun _ => False) rfl rfl ?aO ?aR (fun _ _ h => h) (fun _ h => h.elim) ?aF ?aB ?aS ?aL ?_;(case aR => exact Kd.C_below HR0.out HB.out);(case aB => exact HB.out);(case aF => exact fun _ _ => trivial);(case aO => exact OL.out);(case aS => exact HB.out.size);(case aL => have:=HL.out;simp;omega);intro v40 w3 ho hb hg hat;rw [List.nil_append] at ho;obtain ⟨q0,hq0⟩ : ∃ n_ : Nat,n_ = w3.heap.size:=⟨_,rfl⟩;replace HCH:=Aside0.mk (And.intro HCH.out (show w.heap.size ≤ q0 by have h_:=HS.out;have h2_:=hg.size;omega));have O_y:=Aside0.mk (Kd.R_V (base':=w.heap.size) (Kd.R_mono (Kd.R_bound ho) (ok':=fun k_ => w.heap.size ≤ k_ ∧ k_ < q0) (fun k_ hk_ => ⟨hk_.2.1,by rw [hq0];exact hk_.2.2.1⟩)));replace HB:=Aside0.mk hb;replace HS:=Aside0.mk (show q0 ≤ w3.heap.size by rw [hq0];exact Nat.le_refl _);clear ho hb hg hat OL hq0;obtain ⟨Ay,cy,eo⟩:=Kd.V_slice O_y.out;subst eo))
 go_upto_region 6 with (first
  | ((with_reducible refine gate_callee (f:=9) rfl ?_);refine goesL_ (some 44) rfl rfl Try.func9 (by kernel_rfl) rfl #[.agg #[.int .u64 0,.slice none 0 0,.slice none 0 0,.slice none 0 0,.bool false,.bool false,.bool false],.slice Ay l0.length cy] rfl (by (try simp only [List.map_toArray,List.map_cons,List.map_nil]);first | done | rfl) ?_;refine (supply_Write.calls k 0 none 0 [] none 0 [] none 0 [] false false false Ay cy l0 _ _ _ _ _ _ _ _ _ (Kd.C_nil _ _) (Nat.le_refl _) (Kd.C_nil _ _) (Nat.le_refl _) (Kd.C_nil _ _) (Nat.le_refl _) (Kd.V_reads' O_y.out).2.2 (Kd.V_reads' O_y.out).2.1 P1.out).mono ?_;rintro e_ w5 ⟨u1,u2,u3,rfl,ho1,ho2,ho3,hb⟩;refine ⟨_,rfl,?_⟩;obtain ⟨p1,hp1⟩ : ∃ n_ : Nat,n_ = w3.heap.size:=⟨_,rfl⟩;obtain ⟨q1,hq1⟩ : ∃ n_ : Nat,n_ = w5.heap.size:=⟨_,rfl⟩;replace HCH:=Aside0.mk (And.intro HCH.out (show q0 ≤ p1 ∧ p1 ≤ q1 by have h_:=HS.out;have h2_:=hb.size;omega));have O_d_1:=Aside0.mk (Kd.R_V (base':=w3.heap.size) (Kd.R_mono (Kd.R_bound ho1) (ok':=fun k_ => p1 ≤ k_ ∧ k_ < q1) (fun k_ hk_ => ⟨by rw [hp1];exact hk_.2.1,by rw [hq1];exact hk_.2.2.1⟩)));have O_t_1:=Aside0.mk (Kd.R_V (base':=w3.heap.size) (Kd.R_mono (Kd.R_bound ho2) (ok':=fun k_ => p1 ≤ k_ ∧ k_ < q1) (fun k_ hk_ => ⟨by rw [hp1];exact hk_.2.1,by rw [hq1];exact hk_.2.2.1⟩)));have O_c_1:=Aside0.mk (Kd.R_V (base':=w3.heap.size) (Kd.R_mono (Kd.R_bound ho3) (ok':=fun k_ => p1 ≤ k_ ∧ k_ < q1) (fun k_ hk_ => ⟨by rw [hp1];exact hk_.2.1,by rw [hq1];exact hk_.2.2.1⟩)));clear ho1 ho2 ho3;have n3_:=Aside0.mk (below_step HB.out hb);have n4_:=Aside0.mk ((Nat.le_trans (show _ ≤ _ from HS.out) hb.size : q0 ≤ w5.heap.size));have n5_:=Aside0.mk (Kd.V_below O_y.out hb);clear HB HS O_y;have HB:=n3_;have HS:=n4_;have O_y:=n5_;clear n3_ n4_ n5_;replace HS:=Aside0.mk (show q1 ≤ w5.heap.size by rw [hq1];exact Nat.le_refl _);clear hb hp1 hq1;obtain ⟨A1,p_1,eo⟩:=Kd.V_slice O_d_1.out;subst eo;obtain ⟨B1,q_1,eo⟩:=Kd.V_slice O_t_1.out;subst eo;obtain ⟨C1,r_1,eo⟩:=Kd.V_slice O_c_1.out;subst eo)
  | ((with_reducible refine gate_dst (N:=7) rfl ?_);refine box_event ?hg (N:=7) ?hd (cs:=#[.int .u64 0,.slice none 0 0,.slice none 0 0,.slice none 0 0,.bool false,.bool false,.bool false]) (t:=27) ?hr ?_;(case hd => rfl);(case hg => rfl);(case hr => first | (go_simp;done) | (go_simp;rfl));intro g7 hg w6 hbox hb;have GE_g7:=Aside0.mk (show w.heap.size ≤ g7 by rw [hg];exact HB.out.size);replace HCH:=Aside0.mk (And.intro HCH.out (show q1 ≤ g7 by rw [hg];exact HS.out));have n6_:=Aside0.mk (below_step HB.out hb);have n7_:=Aside0.mk ((Nat.le_trans (show _ ≤ _ from HS.out) hb.size : q1 ≤ w6.heap.size));have n8_:=Aside0.mk (Kd.V_below O_y.out hb);have n9_:=Aside0.mk (Kd.V_below O_d_1.out hb);have n10_:=Aside0.mk (Kd.V_below O_t_1.out hb);have n11_:=Aside0.mk (Kd.V_below O_c_1.out hb);clear HB HS O_y O_d_1 O_t_1 O_c_1;have HB:=n6_;have HS:=n7_;have O_y:=n8_;have O_d_1:=n9_;have O_t_1:=n10_;have O_c_1:=n11_;clear n6_ n7_ n8_ n9_ n10_ n11_;replace HS:=Aside0.mk (show g7 < w6.heap.size from blk_lt hbox);have BK_g7:=Aside0.mk hbox;clear hbox hb hg;have hx_g7_0 : w6.cell? ⟨g7,0,none⟩ = some (.int .u64 0):=(blk_cell BK_g7.out 0).trans rfl;have hf_g7_0:=blk_frozen BK_g7.out 0;have hx_g7_1 : w6.cell? ⟨g7,1,none⟩ = some (.slice none 0 0):=(blk_cell BK_g7.out 1).trans rfl;have hf_g7_1:=blk_frozen BK_g7.out 1;have hx_g7_2 : w6.cell? ⟨g7,2,none⟩ = some (.slice none 0 0):=(blk_cell BK_g7.out 2).trans rfl;have hf_g7_2:=blk_frozen BK_g7.out 2;have hx_g7_3 : w6.cell? ⟨g7,3,none⟩ = some (.slice none 0 0):=(blk_cell BK_g7.out 3).trans rfl;have hf_g7_3:=blk_frozen BK_g7.out 3;have hx_g7_4 : w6.cell? ⟨g7,4,none⟩ = some (.bool false):=(blk_cell BK_g7.out 4).trans rfl;have hf_g7_4:=blk_frozen BK_g7.out 4;have hx_g7_5 : w6.cell? ⟨g7,5,none⟩ = some (.bool false):=(blk_cell BK_g7.out 5).trans rfl;have hf_g7_5:=blk_frozen BK_g7.out 5;have hx_g7_6 : w6.cell? ⟨g7,6,none⟩ = some (.bool false):=(blk_cell BK_g7.out 6).trans rfl;have hf_g7_6:=blk_frozen BK_g7.out 6))
 clear hx_g7_0 hf_g7_0 hx_g7_1 hf_g7_1 hx_g7_2 hf_g7_2 hx_g7_3 hf_g7_3 hx_g7_4 hf_g7_4 hx_g7_5 hf_g7_5 hx_g7_6 hf_g7_6
 obtain ⟨w7,hw12_⟩ : ∃ w_ : World,set7 w6 g7 (.int .u64 b1) (.slice A1 d1.length p_1) (.slice B1 t1.length q_1) (.slice C1 c1.length r_1) (.bool f1) (.bool g1_) (.bool h1) = w_:=⟨_,rfl⟩
 have n13_:=Aside0.mk (blk7 hw12_ BK_g7.out)
 have n14_:=Aside0.mk (V7o hw12_ (fun k_ hk_ => by have h_:=HCH.out;omega) O_y.out)
 have n15_:=Aside0.mk (V7o hw12_ (fun k_ hk_ => by have h_:=HCH.out;omega) O_d_1.out)
 have n16_:=Aside0.mk (V7o hw12_ (fun k_ hk_ => by have h_:=HCH.out;omega) O_t_1.out)
 have n17_:=Aside0.mk (V7o hw12_ (fun k_ hk_ => by have h_:=HCH.out;omega) O_c_1.out)
 have n18_:=Aside0.mk (below7 hw12_ GE_g7.out HB.out)
 have n19_:=Aside0.mk ((size7 hw12_).symm ▸ HS.out)
 rw [set7_fold,hw12_]
 clear hw12_ BK_g7 O_y O_d_1 O_t_1 O_c_1 HB HS
 have BK_g7:=n13_
 have O_y:=n14_
 have O_d_1:=n15_
 have O_t_1:=n16_
 have O_c_1:=n17_
 have HB:=n18_
 have HS:=n19_
 clear n13_ n14_ n15_ n16_ n17_ n18_ n19_
 have hx_g7_0 : w7.cell? ⟨g7,0,none⟩ = some (.int .u64 b1):=(blk_cell BK_g7.out 0).trans rfl
 have hf_g7_0:=blk_frozen BK_g7.out 0
 have hx_g7_1 : w7.cell? ⟨g7,1,none⟩ = some (.slice A1 d1.length p_1):=(blk_cell BK_g7.out 1).trans rfl
 have hf_g7_1:=blk_frozen BK_g7.out 1
 have hx_g7_2 : w7.cell? ⟨g7,2,none⟩ = some (.slice B1 t1.length q_1):=(blk_cell BK_g7.out 2).trans rfl
 have hf_g7_2:=blk_frozen BK_g7.out 2
 have hx_g7_3 : w7.cell? ⟨g7,3,none⟩ = some (.slice C1 c1.length r_1):=(blk_cell BK_g7.out 3).trans rfl
 have hf_g7_3:=blk_frozen BK_g7.out 3
 have hx_g7_4 : w7.cell? ⟨g7,4,none⟩ = some (.bool f1):=(blk_cell BK_g7.out 4).trans rfl
 have hf_g7_4:=blk_frozen BK_g7.out 4
 have hx_g7_5 : w7.cell? ⟨g7,5,none⟩ = some (.bool g1_):=(blk_cell BK_g7.out 5).trans rfl
 have hf_g7_5:=blk_frozen BK_g7.out 5
 have hx_g7_6 : w7.cell? ⟨g7,6,none⟩ = some (.bool h1):=(blk_cell BK_g7.out 6).trans rfl
 have hf_g7_6:=blk_frozen BK_g7.out 6
 go_upto_region 7 with (first
  | ((with_reducible refine gate_callee (f:=9) rfl ?_);refine goesL_ (some 50) rfl rfl Try.func9 (by kernel_rfl) rfl #[.agg #[.int .u64 b1,.slice A1 d1.length p_1,.slice B1 t1.length q_1,.slice C1 c1.length r_1,.bool f1,.bool g1_,.bool h1],.slice Ay l0.length cy] rfl (by (try simp only [List.map_toArray,List.map_cons,List.map_nil]);first | done | rfl) ?_;refine (supply_Write.calls k b1 _ _ d1 _ _ t1 _ _ c1 f1 g1_ h1 Ay cy l0 _ _ _ _ _ _ _ _ _ (Kd.V_reads' O_d_1.out).2.2 (Kd.V_reads' O_d_1.out).2.1 (Kd.V_reads' O_t_1.out).2.2 (Kd.V_reads' O_t_1.out).2.1 (Kd.V_reads' O_c_1.out).2.2 (Kd.V_reads' O_c_1.out).2.1 (Kd.V_reads' O_y.out).2.2 (Kd.V_reads' O_y.out).2.1 P2.out).mono ?_;rintro e_ w8 ⟨u1,u2,u3,rfl,ho1,ho2,ho3,hb⟩;refine ⟨_,rfl,?_⟩;obtain ⟨p2,hp2⟩ : ∃ n_ : Nat,n_ = w7.heap.size:=⟨_,rfl⟩;obtain ⟨q2,hq2⟩ : ∃ n_ : Nat,n_ = w8.heap.size:=⟨_,rfl⟩;replace HCH:=Aside0.mk (And.intro HCH.out (show g7 < p2 ∧ p2 ≤ q2 by have h_:=HS.out;have h2_:=hb.size;omega));have O_d_2:=Aside0.mk (Kd.R_mono (Kd.R_bound ho1) (ok':=fun k_ => p2 ≤ k_ ∧ k_ < q2) (fun k_ hk_ => ⟨by rw [hp2];exact hk_.2.1,by rw [hq2];exact hk_.2.2.1⟩));have O_t_2:=Aside0.mk (Kd.R_V (base':=w7.heap.size) (Kd.R_mono (Kd.R_bound ho2) (ok':=fun k_ => p2 ≤ k_ ∧ k_ < q2) (fun k_ hk_ => ⟨by rw [hp2];exact hk_.2.1,by rw [hq2];exact hk_.2.2.1⟩)));have O_c_2:=Aside0.mk (Kd.R_V (base':=w7.heap.size) (Kd.R_mono (Kd.R_bound ho3) (ok':=fun k_ => p2 ≤ k_ ∧ k_ < q2) (fun k_ hk_ => ⟨by rw [hp2];exact hk_.2.1,by rw [hq2];exact hk_.2.2.1⟩)));clear ho1 ho2 ho3;clear hx_g7_0 hf_g7_0 hx_g7_1 hf_g7_1 hx_g7_2 hf_g7_2 hx_g7_3 hf_g7_3 hx_g7_4 hf_g7_4 hx_g7_5 hf_g7_5 hx_g7_6 hf_g7_6;have n20_:=Aside0.mk (below_step HB.out hb);have n21_:=Aside0.mk ((Nat.lt_of_lt_of_le (show _ < _ from HS.out) hb.size : g7 < w8.heap.size));have n22_:=Aside0.mk (blk_below BK_g7.out hb);have n23_:=Aside0.mk (Kd.V_below O_y.out hb);have n24_:=Aside0.mk (Kd.V_below O_d_1.out hb);have n25_:=Aside0.mk (Kd.V_below O_t_1.out hb);have n26_:=Aside0.mk (Kd.V_below O_c_1.out hb);clear HB HS BK_g7 O_y O_d_1 O_t_1 O_c_1;have HB:=n20_;have HS:=n21_;have BK_g7:=n22_;have O_y:=n23_;have O_d_1:=n24_;have O_t_1:=n25_;have O_c_1:=n26_;clear n20_ n21_ n22_ n23_ n24_ n25_ n26_;replace HS:=Aside0.mk (show q2 ≤ w8.heap.size by rw [hq2];exact Nat.le_refl _);clear hb hp2 hq2;obtain ⟨A2,p_2,eo⟩:=Kd.R_slice O_d_2.out;subst eo;obtain ⟨B2,q_2,eo⟩:=Kd.V_slice O_t_2.out;subst eo;obtain ⟨C2,r_2,eo⟩:=Kd.V_slice O_c_2.out;subst eo)
  | ((with_reducible refine gate_dst (N:=9) rfl ?_);refine box_event ?hg (N:=9) ?hd (cs:=#[.int .u64 0,.slice none 0 0,.slice none 0 0,.slice none 0 0,.bool false,.bool false,.bool false]) (t:=27) ?hr ?_;(case hd => rfl);(case hg => rfl);(case hr => first | (go_simp;done) | (go_simp;rfl));intro g9 hg w9 hbox hb;have GE_g9:=Aside0.mk (show w.heap.size ≤ g9 by rw [hg];exact HB.out.size);have NB_g7_g9 : g7 ≠ g9:=(by rw [hg];exact Nat.ne_of_lt (blk_lt BK_g7.out));have NB_g9_g7:=NB_g7_g9.symm;replace HCH:=Aside0.mk (And.intro HCH.out (show q2 ≤ g9 by rw [hg];exact HS.out));have n27_:=Aside0.mk (below_step HB.out hb);have n28_:=Aside0.mk ((Nat.le_trans (show _ ≤ _ from HS.out) hb.size : q2 ≤ w9.heap.size));have n29_:=Aside0.mk (blk_below BK_g7.out hb);have n30_:=Aside0.mk (Kd.V_below O_y.out hb);have n31_:=Aside0.mk (Kd.V_below O_d_1.out hb);have n32_:=Aside0.mk (Kd.V_below O_t_1.out hb);have n33_:=Aside0.mk (Kd.V_below O_c_1.out hb);have n34_:=Aside0.mk (Kd.R_below O_d_2.out hb);have n35_:=Aside0.mk (Kd.V_below O_t_2.out hb);have n36_:=Aside0.mk (Kd.V_below O_c_2.out hb);clear HB HS BK_g7 O_y O_d_1 O_t_1 O_c_1 O_d_2 O_t_2 O_c_2;have HB:=n27_;have HS:=n28_;have BK_g7:=n29_;have O_y:=n30_;have O_d_1:=n31_;have O_t_1:=n32_;have O_c_1:=n33_;have O_d_2:=n34_;have O_t_2:=n35_;have O_c_2:=n36_;clear n27_ n28_ n29_ n30_ n31_ n32_ n33_ n34_ n35_ n36_;replace HS:=Aside0.mk (show g9 < w9.heap.size from blk_lt hbox);have BK_g9:=Aside0.mk hbox;clear hbox hb hg;have hx_g9_0 : w9.cell? ⟨g9,0,none⟩ = some (.int .u64 0):=(blk_cell BK_g9.out 0).trans rfl;have hf_g9_0:=blk_frozen BK_g9.out 0;have hx_g9_1 : w9.cell? ⟨g9,1,none⟩ = some (.slice none 0 0):=(blk_cell BK_g9.out 1).trans rfl;have hf_g9_1:=blk_frozen BK_g9.out 1;have hx_g9_2 : w9.cell? ⟨g9,2,none⟩ = some (.slice none 0 0):=(blk_cell BK_g9.out 2).trans rfl;have hf_g9_2:=blk_frozen BK_g9.out 2;have hx_g9_3 : w9.cell? ⟨g9,3,none⟩ = some (.slice none 0 0):=(blk_cell BK_g9.out 3).trans rfl;have hf_g9_3:=blk_frozen BK_g9.out 3;have hx_g9_4 : w9.cell? ⟨g9,4,none⟩ = some (.bool false):=(blk_cell BK_g9.out 4).trans rfl;have hf_g9_4:=blk_frozen BK_g9.out 4;have hx_g9_5 : w9.cell? ⟨g9,5,none⟩ = some (.bool false):=(blk_cell BK_g9.out 5).trans rfl;have hf_g9_5:=blk_frozen BK_g9.out 5;have hx_g9_6 : w9.cell? ⟨g9,6,none⟩ = some (.bool false):=(blk_cell BK_g9.out 6).trans rfl;have hf_g9_6:=blk_frozen BK_g9.out 6))
 clear hx_g9_0 hf_g9_0 hx_g9_1 hf_g9_1 hx_g9_2 hf_g9_2 hx_g9_3 hf_g9_3 hx_g9_4 hf_g9_4 hx_g9_5 hf_g9_5 hx_g9_6 hf_g9_6
 obtain ⟨w10,hw37_⟩ : ∃ w_ : World,set7 w9 g9 (.int .u64 b2) (.slice A2 d2.length p_2) (.slice B2 t2.length q_2) (.slice C2 c2.length r_2) (.bool f2) (.bool g2_) (.bool h2) = w_:=⟨_,rfl⟩
 have n38_:=Aside0.mk (blk7 hw37_ BK_g9.out)
 have n39_:=Aside0.mk (far7 hw37_ NB_g7_g9 BK_g7.out)
 have n40_:=Aside0.mk (V7o hw37_ (fun k_ hk_ => by have h_:=HCH.out;omega) O_y.out)
 have n41_:=Aside0.mk (V7o hw37_ (fun k_ hk_ => by have h_:=HCH.out;omega) O_d_1.out)
 have n42_:=Aside0.mk (V7o hw37_ (fun k_ hk_ => by have h_:=HCH.out;omega) O_t_1.out)
 have n43_:=Aside0.mk (V7o hw37_ (fun k_ hk_ => by have h_:=HCH.out;omega) O_c_1.out)
 have n44_:=Aside0.mk (R7o hw37_ (fun k_ hk_ => by have h_:=HCH.out;omega) O_d_2.out)
 have n45_:=Aside0.mk (V7o hw37_ (fun k_ hk_ => by have h_:=HCH.out;omega) O_t_2.out)
 have n46_:=Aside0.mk (V7o hw37_ (fun k_ hk_ => by have h_:=HCH.out;omega) O_c_2.out)
 have n47_:=Aside0.mk (below7 hw37_ GE_g9.out HB.out)
 have n48_:=Aside0.mk ((size7 hw37_).symm ▸ HS.out)
 rw [set7_fold,hw37_]
 clear hw37_ BK_g9 BK_g7 O_y O_d_1 O_t_1 O_c_1 O_d_2 O_t_2 O_c_2 HB HS
 have BK_g9:=n38_
 have BK_g7:=n39_
 have O_y:=n40_
 have O_d_1:=n41_
 have O_t_1:=n42_
 have O_c_1:=n43_
 have O_d_2:=n44_
 have O_t_2:=n45_
 have O_c_2:=n46_
 have HB:=n47_
 have HS:=n48_
 clear n38_ n39_ n40_ n41_ n42_ n43_ n44_ n45_ n46_ n47_ n48_
 have hx_g9_0 : w10.cell? ⟨g9,0,none⟩ = some (.int .u64 b2):=(blk_cell BK_g9.out 0).trans rfl
 have hf_g9_0:=blk_frozen BK_g9.out 0
 have hx_g9_1 : w10.cell? ⟨g9,1,none⟩ = some (.slice A2 d2.length p_2):=(blk_cell BK_g9.out 1).trans rfl
 have hf_g9_1:=blk_frozen BK_g9.out 1
 have hx_g9_2 : w10.cell? ⟨g9,2,none⟩ = some (.slice B2 t2.length q_2):=(blk_cell BK_g9.out 2).trans rfl
 have hf_g9_2:=blk_frozen BK_g9.out 2
 have hx_g9_3 : w10.cell? ⟨g9,3,none⟩ = some (.slice C2 c2.length r_2):=(blk_cell BK_g9.out 3).trans rfl
 have hf_g9_3:=blk_frozen BK_g9.out 3
 have hx_g9_4 : w10.cell? ⟨g9,4,none⟩ = some (.bool f2):=(blk_cell BK_g9.out 4).trans rfl
 have hf_g9_4:=blk_frozen BK_g9.out 4
 have hx_g9_5 : w10.cell? ⟨g9,5,none⟩ = some (.bool g2_):=(blk_cell BK_g9.out 5).trans rfl
 have hf_g9_5:=blk_frozen BK_g9.out 5
 have hx_g9_6 : w10.cell? ⟨g9,6,none⟩ = some (.bool h2):=(blk_cell BK_g9.out 6).trans rfl
 have hf_g9_6:=blk_frozen BK_g9.out 6
 go_upto_region 8 with (first
  | ((with_reducible refine gate_callee (f:=10) rfl ?_);refine goesL_ (some 56) rfl rfl Try.func10 (by kernel_rfl) rfl #[.agg #[.int .u64 b2,.slice A2 d2.length p_2,.slice B2 t2.length q_2,.slice C2 c2.length r_2,.bool f2,.bool g2_,.bool h2],.int .i64 a1,.int .u64 1048576] rfl (by (try simp only [List.map_toArray,List.map_cons,List.map_nil]);first | done | rfl) ?_;refine (supply_Next_own.calls b2 _ _ d2 _ _ t2 _ _ c2 f2 g2_ h2 a1 1048576 _ _ _ _ _ _ _ _ _ _ _ _ (Kd.R_reads' O_d_2.out).2.2 (Kd.R_reads' O_d_2.out).2.1 (Kd.V_reads' O_t_2.out).2.2 (Kd.V_reads' O_t_2.out).2.1 (Kd.V_reads' O_c_2.out).2.2 (Kd.V_reads' O_c_2.out).2.1 P3.out).mono ?_;rintro e_ w11 ⟨u1,u2,u3,u4,rfl,ho1,ho2,ho3,ho4,hb⟩;refine ⟨_,rfl,?_⟩;obtain ⟨p3,hp3⟩ : ∃ n_ : Nat,n_ = w10.heap.size:=⟨_,rfl⟩;obtain ⟨q3,hq3⟩ : ∃ n_ : Nat,n_ = w11.heap.size:=⟨_,rfl⟩;replace HCH:=Aside0.mk (And.intro HCH.out (show g9 < p3 ∧ p3 ≤ q3 by have h_:=HS.out;have h2_:=hb.size;omega));have O_d_3:=Aside0.mk (Kd.V_mono (Kd.V_bound ho1) (ok':=fun k_ => p3 ≤ k_ ∧ k_ < q3) (fun k_ hk_ => ⟨by rw [hp3];exact hk_.1.1,by rw [hq3];exact hk_.2⟩));have O_t_3:=Aside0.mk (Kd.V_mono (Kd.V_bound ho2) (ok':=fun k_ => p3 ≤ k_ ∧ k_ < q3) (fun k_ hk_ => ⟨by rw [hp3];exact hk_.1.1,by rw [hq3];exact hk_.2⟩));have O_c_3:=Aside0.mk (Kd.V_mono (Kd.V_bound ho3) (ok':=fun k_ => p3 ≤ k_ ∧ k_ < q3) (fun k_ hk_ => ⟨by rw [hp3];exact hk_.1.1,by rw [hq3];exact hk_.2⟩));have O_m_3:=Aside0.mk (Kd.V_mono (Kd.V_bound (Kd.R_V (base':=w10.heap.size) ho4)) (ok':=fun k_ => p3 ≤ k_ ∧ k_ < q3) (fun k_ hk_ => ⟨by rw [hp3];exact hk_.1,by rw [hq3];exact hk_.2⟩));clear ho1 ho2 ho3 ho4;clear hx_g9_0 hf_g9_0 hx_g9_1 hf_g9_1 hx_g9_2 hf_g9_2 hx_g9_3 hf_g9_3 hx_g9_4 hf_g9_4 hx_g9_5 hf_g9_5 hx_g9_6 hf_g9_6;have n49_:=Aside0.mk (below_step HB.out hb);have n50_:=Aside0.mk ((Nat.lt_of_lt_of_le (show _ < _ from HS.out) hb.size : g9 < w11.heap.size));have n51_:=Aside0.mk (blk_below BK_g7.out hb);have n52_:=Aside0.mk (blk_below BK_g9.out hb);have n53_:=Aside0.mk (Kd.V_below O_y.out hb);have n54_:=Aside0.mk (Kd.V_below O_d_1.out hb);have n55_:=Aside0.mk (Kd.V_below O_t_1.out hb);have n56_:=Aside0.mk (Kd.V_below O_c_1.out hb);have n57_:=Aside0.mk (Kd.R_below O_d_2.out hb);have n58_:=Aside0.mk (Kd.V_below O_t_2.out hb);have n59_:=Aside0.mk (Kd.V_below O_c_2.out hb);clear HB HS BK_g7 BK_g9 O_y O_d_1 O_t_1 O_c_1 O_d_2 O_t_2 O_c_2;have HB:=n49_;have HS:=n50_;have BK_g7:=n51_;have BK_g9:=n52_;have O_y:=n53_;have O_d_1:=n54_;have O_t_1:=n55_;have O_c_1:=n56_;have O_d_2:=n57_;have O_t_2:=n58_;have O_c_2:=n59_;clear n49_ n50_ n51_ n52_ n53_ n54_ n55_ n56_ n57_ n58_ n59_;replace HS:=Aside0.mk (show q3 ≤ w11.heap.size by rw [hq3];exact Nat.le_refl _);clear hb hp3 hq3;obtain ⟨A3,p_3,eo⟩:=Kd.V_slice O_d_3.out;subst eo;obtain ⟨B3,q_3,eo⟩:=Kd.V_slice O_t_3.out;subst eo;obtain ⟨C3,r_3,eo⟩:=Kd.V_slice O_c_3.out;subst eo;obtain ⟨M3,n3,eo⟩:=Kd.V_slice O_m_3.out;subst eo)
  | ((with_reducible refine gate_dst (N:=11) rfl ?_);refine box_event ?hg (N:=11) ?hd (cs:=#[.int .u64 0,.slice none 0 0,.slice none 0 0,.slice none 0 0,.bool false,.bool false,.bool false]) (t:=27) ?hr ?_;(case hd => rfl);(case hg => rfl);(case hr => first | (go_simp;done) | (go_simp;rfl));intro g11 hg w12 hbox hb;have GE_g11:=Aside0.mk (show w.heap.size ≤ g11 by rw [hg];exact HB.out.size);have NB_g7_g11 : g7 ≠ g11:=(by rw [hg];exact Nat.ne_of_lt (blk_lt BK_g7.out));have NB_g11_g7:=NB_g7_g11.symm;have NB_g9_g11 : g9 ≠ g11:=(by rw [hg];exact Nat.ne_of_lt (blk_lt BK_g9.out));have NB_g11_g9:=NB_g9_g11.symm;replace HCH:=Aside0.mk (And.intro HCH.out (show q3 ≤ g11 by rw [hg];exact HS.out));have n60_:=Aside0.mk (below_step HB.out hb);have n61_:=Aside0.mk ((Nat.le_trans (show _ ≤ _ from HS.out) hb.size : q3 ≤ w12.heap.size));have n62_:=Aside0.mk (blk_below BK_g7.out hb);have n63_:=Aside0.mk (blk_below BK_g9.out hb);have n64_:=Aside0.mk (Kd.V_below O_y.out hb);have n65_:=Aside0.mk (Kd.V_below O_d_1.out hb);have n66_:=Aside0.mk (Kd.V_below O_t_1.out hb);have n67_:=Aside0.mk (Kd.V_below O_c_1.out hb);have n68_:=Aside0.mk (Kd.R_below O_d_2.out hb);have n69_:=Aside0.mk (Kd.V_below O_t_2.out hb);have n70_:=Aside0.mk (Kd.V_below O_c_2.out hb);have n71_:=Aside0.mk (Kd.V_below O_d_3.out hb);have n72_:=Aside0.mk (Kd.V_below O_t_3.out hb);have n73_:=Aside0.mk (Kd.V_below O_c_3.out hb);have n74_:=Aside0.mk (Kd.V_below O_m_3.out hb);clear HB HS BK_g7 BK_g9 O_y O_d_1 O_t_1 O_c_1 O_d_2 O_t_2 O_c_2 O_d_3 O_t_3 O_c_3 O_m_3;have HB:=n60_;have HS:=n61_;have BK_g7:=n62_;have BK_g9:=n63_;have O_y:=n64_;have O_d_1:=n65_;have O_t_1:=n66_;have O_c_1:=n67_;have O_d_2:=n68_;have O_t_2:=n69_;have O_c_2:=n70_;have O_d_3:=n71_;have O_t_3:=n72_;have O_c_3:=n73_;have O_m_3:=n74_;clear n60_ n61_ n62_ n63_ n64_ n65_ n66_ n67_ n68_ n69_ n70_ n71_ n72_ n73_ n74_;replace HS:=Aside0.mk (show g11 < w12.heap.size from blk_lt hbox);have BK_g11:=Aside0.mk hbox;clear hbox hb hg)
  | ((with_reducible refine gate_dst (N:=12) rfl ?_);refine box_event ?hg (N:=12) ?hd (cs:=#[.int .u64 0,.slice none 0 0,.bool false]) (t:=32) ?hr ?_;(case hd => rfl);(case hg => rfl);(case hr => first | (go_simp;done) | (go_simp;rfl));intro g12 hg w13 hbox hb;have GE_g12:=Aside0.mk (show w.heap.size ≤ g12 by rw [hg];exact HB.out.size);have NB_g7_g12 : g7 ≠ g12:=(by rw [hg];exact Nat.ne_of_lt (blk_lt BK_g7.out));have NB_g12_g7:=NB_g7_g12.symm;have NB_g9_g12 : g9 ≠ g12:=(by rw [hg];exact Nat.ne_of_lt (blk_lt BK_g9.out));have NB_g12_g9:=NB_g9_g12.symm;have NB_g11_g12 : g11 ≠ g12:=(by rw [hg];exact Nat.ne_of_lt (blk_lt BK_g11.out));have NB_g12_g11:=NB_g11_g12.symm;replace HCH:=Aside0.mk (And.intro HCH.out (show g11 < g12 by rw [hg];exact HS.out));have n75_:=Aside0.mk (below_step HB.out hb);have n76_:=Aside0.mk ((Nat.lt_of_lt_of_le (show _ < _ from HS.out) hb.size : g11 < w13.heap.size));have n77_:=Aside0.mk (blk_below BK_g7.out hb);have n78_:=Aside0.mk (blk_below BK_g9.out hb);have n79_:=Aside0.mk (blk_below BK_g11.out hb);have n80_:=Aside0.mk (Kd.V_below O_y.out hb);have n81_:=Aside0.mk (Kd.V_below O_d_1.out hb);have n82_:=Aside0.mk (Kd.V_below O_t_1.out hb);have n83_:=Aside0.mk (Kd.V_below O_c_1.out hb);have n84_:=Aside0.mk (Kd.R_below O_d_2.out hb);have n85_:=Aside0.mk (Kd.V_below O_t_2.out hb);have n86_:=Aside0.mk (Kd.V_below O_c_2.out hb);have n87_:=Aside0.mk (Kd.V_below O_d_3.out hb);have n88_:=Aside0.mk (Kd.V_below O_t_3.out hb);have n89_:=Aside0.mk (Kd.V_below O_c_3.out hb);have n90_:=Aside0.mk (Kd.V_below O_m_3.out hb);clear HB HS BK_g7 BK_g9 BK_g11 O_y O_d_1 O_t_1 O_c_1 O_d_2 O_t_2 O_c_2 O_d_3 O_t_3 O_c_3 O_m_3;have HB:=n75_;have HS:=n76_;have BK_g7:=n77_;have BK_g9:=n78_;have BK_g11:=n79_;have O_y:=n80_;have O_d_1:=n81_;have O_t_1:=n82_;have O_c_1:=n83_;have O_d_2:=n84_;have O_t_2:=n85_;have O_c_2:=n86_;have O_d_3:=n87_;have O_t_3:=n88_;have O_c_3:=n89_;have O_m_3:=n90_;clear n75_ n76_ n77_ n78_ n79_ n80_ n81_ n82_ n83_ n84_ n85_ n86_ n87_ n88_ n89_ n90_;replace HS:=Aside0.mk (show g12 < w13.heap.size from blk_lt hbox);have BK_g12:=Aside0.mk hbox;clear hbox hb hg;have hx_g11_0 : w13.cell? ⟨g11,0,none⟩ = some (.int .u64 0):=(blk_cell BK_g11.out 0).trans rfl;have hf_g11_0:=blk_frozen BK_g11.out 0;have hx_g11_1 : w13.cell? ⟨g11,1,none⟩ = some (.slice none 0 0):=(blk_cell BK_g11.out 1).trans rfl;have hf_g11_1:=blk_frozen BK_g11.out 1;have hx_g11_2 : w13.cell? ⟨g11,2,none⟩ = some (.slice none 0 0):=(blk_cell BK_g11.out 2).trans rfl;have hf_g11_2:=blk_frozen BK_g11.out 2;have hx_g11_3 : w13.cell? ⟨g11,3,none⟩ = some (.slice none 0 0):=(blk_cell BK_g11.out 3).trans rfl;have hf_g11_3:=blk_frozen BK_g11.out 3;have hx_g11_4 : w13.cell? ⟨g11,4,none⟩ = some (.bool false):=(blk_cell BK_g11.out 4).trans rfl;have hf_g11_4:=blk_frozen BK_g11.out 4;have hx_g11_5 : w13.cell? ⟨g11,5,none⟩ = some (.bool false):=(blk_cell BK_g11.out 5).trans rfl;have hf_g11_5:=blk_frozen BK_g11.out 5;have hx_g11_6 : w13.cell? ⟨g11,6,none⟩ = some (.bool false):=(blk_cell BK_g11.out 6).trans rfl;have hf_g11_6:=blk_frozen BK_g11.out 6;have hx_g12_0 : w13.cell? ⟨g12,0,none⟩ = some (.int .u64 0):=(blk_cell BK_g12.out 0).trans rfl;have hf_g12_0:=blk_frozen BK_g12.out 0;have hx_g12_1 : w13.cell? ⟨g12,1,none⟩ = some (.slice none 0 0):=(blk_cell BK_g12.out 1).trans rfl;have hf_g12_1:=blk_frozen BK_g12.out 1;have hx_g12_2 : w13.cell? ⟨g12,2,none⟩ = some (.bool false):=(blk_cell BK_g12.out 2).trans rfl;have hf_g12_2:=blk_frozen BK_g12.out 2))
 clear hx_g11_0 hf_g11_0 hx_g11_1 hf_g11_1 hx_g11_2 hf_g11_2 hx_g11_3 hf_g11_3 hx_g11_4 hf_g11_4 hx_g11_5 hf_g11_5 hx_g11_6 hf_g11_6 hx_g12_0 hf_g12_0 hx_g12_1 hf_g12_1 hx_g12_2 hf_g12_2
 obtain ⟨w14,hw91_⟩ : ∃ w_ : World,set7 w13 g11 (.int .u64 b3) (.slice A3 d3.length p_3) (.slice B3 t3.length q_3) (.slice C3 c3.length r_3) (.bool f3) (.bool g3_) (.bool h3) = w_:=⟨_,rfl⟩
 have n92_:=Aside0.mk (blk7 hw91_ BK_g11.out)
 have n93_:=Aside0.mk (far7 hw91_ NB_g7_g11 BK_g7.out)
 have n94_:=Aside0.mk (far7 hw91_ NB_g9_g11 BK_g9.out)
 have n95_:=Aside0.mk (far7 hw91_ NB_g12_g11 BK_g12.out)
 have n96_:=Aside0.mk (V7o hw91_ (fun k_ hk_ => by have h_:=HCH.out;omega) O_y.out)
 have n97_:=Aside0.mk (V7o hw91_ (fun k_ hk_ => by have h_:=HCH.out;omega) O_d_1.out)
 have n98_:=Aside0.mk (V7o hw91_ (fun k_ hk_ => by have h_:=HCH.out;omega) O_t_1.out)
 have n99_:=Aside0.mk (V7o hw91_ (fun k_ hk_ => by have h_:=HCH.out;omega) O_c_1.out)
 have n100_:=Aside0.mk (R7o hw91_ (fun k_ hk_ => by have h_:=HCH.out;omega) O_d_2.out)
 have n101_:=Aside0.mk (V7o hw91_ (fun k_ hk_ => by have h_:=HCH.out;omega) O_t_2.out)
 have n102_:=Aside0.mk (V7o hw91_ (fun k_ hk_ => by have h_:=HCH.out;omega) O_c_2.out)
 have n103_:=Aside0.mk (V7o hw91_ (fun k_ hk_ => by have h_:=HCH.out;omega) O_d_3.out)
 have n104_:=Aside0.mk (V7o hw91_ (fun k_ hk_ => by have h_:=HCH.out;omega) O_t_3.out)
 have n105_:=Aside0.mk (V7o hw91_ (fun k_ hk_ => by have h_:=HCH.out;omega) O_c_3.out)
 have n106_:=Aside0.mk (V7o hw91_ (fun k_ hk_ => by have h_:=HCH.out;omega) O_m_3.out)
 have n107_:=Aside0.mk (below7 hw91_ GE_g11.out HB.out)
 have n108_:=Aside0.mk ((size7 hw91_).symm ▸ HS.out)
 rw [set7_fold,hw91_]
 clear hw91_ BK_g11 BK_g7 BK_g9 BK_g12 O_y O_d_1 O_t_1 O_c_1 O_d_2 O_t_2 O_c_2 O_d_3 O_t_3 O_c_3 O_m_3 HB HS
 have BK_g11:=n92_
 have BK_g7:=n93_
 have BK_g9:=n94_
 have BK_g12:=n95_
 have O_y:=n96_
 have O_d_1:=n97_
 have O_t_1:=n98_
 have O_c_1:=n99_
 have O_d_2:=n100_
 have O_t_2:=n101_
 have O_c_2:=n102_
 have O_d_3:=n103_
 have O_t_3:=n104_
 have O_c_3:=n105_
 have O_m_3:=n106_
 have HB:=n107_
 have HS:=n108_
 clear n92_ n93_ n94_ n95_ n96_ n97_ n98_ n99_ n100_ n101_ n102_ n103_ n104_ n105_ n106_ n107_ n108_
 obtain ⟨w15,hw109_⟩ : ∃ w_ : World,set3 w14 g12 (.int .u64 off) (.slice M3 m3.length n3) (.bool cf) = w_:=⟨_,rfl⟩
 have n110_:=Aside0.mk (blk3 hw109_ BK_g12.out)
 have n111_:=Aside0.mk (far3 hw109_ NB_g7_g12 BK_g7.out)
 have n112_:=Aside0.mk (far3 hw109_ NB_g9_g12 BK_g9.out)
 have n113_:=Aside0.mk (far3 hw109_ NB_g11_g12 BK_g11.out)
 have n114_:=Aside0.mk (V3o hw109_ (fun k_ hk_ => by have h_:=HCH.out;omega) O_y.out)
 have n115_:=Aside0.mk (V3o hw109_ (fun k_ hk_ => by have h_:=HCH.out;omega) O_d_1.out)
 have n116_:=Aside0.mk (V3o hw109_ (fun k_ hk_ => by have h_:=HCH.out;omega) O_t_1.out)
 have n117_:=Aside0.mk (V3o hw109_ (fun k_ hk_ => by have h_:=HCH.out;omega) O_c_1.out)
 have n118_:=Aside0.mk (R3o hw109_ (fun k_ hk_ => by have h_:=HCH.out;omega) O_d_2.out)
 have n119_:=Aside0.mk (V3o hw109_ (fun k_ hk_ => by have h_:=HCH.out;omega) O_t_2.out)
 have n120_:=Aside0.mk (V3o hw109_ (fun k_ hk_ => by have h_:=HCH.out;omega) O_c_2.out)
 have n121_:=Aside0.mk (V3o hw109_ (fun k_ hk_ => by have h_:=HCH.out;omega) O_d_3.out)
 have n122_:=Aside0.mk (V3o hw109_ (fun k_ hk_ => by have h_:=HCH.out;omega) O_t_3.out)
 have n123_:=Aside0.mk (V3o hw109_ (fun k_ hk_ => by have h_:=HCH.out;omega) O_c_3.out)
 have n124_:=Aside0.mk (V3o hw109_ (fun k_ hk_ => by have h_:=HCH.out;omega) O_m_3.out)
 have n125_:=Aside0.mk (below3 hw109_ GE_g12.out HB.out)
 have n126_:=Aside0.mk ((size3 hw109_).symm ▸ HS.out)
 rw [set3_fold,hw109_]
 clear hw109_ BK_g12 BK_g7 BK_g9 BK_g11 O_y O_d_1 O_t_1 O_c_1 O_d_2 O_t_2 O_c_2 O_d_3 O_t_3 O_c_3 O_m_3 HB HS
 have BK_g12:=n110_
 have BK_g7:=n111_
 have BK_g9:=n112_
 have BK_g11:=n113_
 have O_y:=n114_
 have O_d_1:=n115_
 have O_t_1:=n116_
 have O_c_1:=n117_
 have O_d_2:=n118_
 have O_t_2:=n119_
 have O_c_2:=n120_
 have O_d_3:=n121_
 have O_t_3:=n122_
 have O_c_3:=n123_
 have O_m_3:=n124_
 have HB:=n125_
 have HS:=n126_
 clear n110_ n111_ n112_ n113_ n114_ n115_ n116_ n117_ n118_ n119_ n120_ n121_ n122_ n123_ n124_ n125_ n126_
 have hx_g11_0 : w15.cell? ⟨g11,0,none⟩ = some (.int .u64 b3):=(blk_cell BK_g11.out 0).trans rfl
 have hf_g11_0:=blk_frozen BK_g11.out 0
 have hx_g11_1 : w15.cell? ⟨g11,1,none⟩ = some (.slice A3 d3.length p_3):=(blk_cell BK_g11.out 1).trans rfl
 have hf_g11_1:=blk_frozen BK_g11.out 1
 have hx_g11_2 : w15.cell? ⟨g11,2,none⟩ = some (.slice B3 t3.length q_3):=(blk_cell BK_g11.out 2).trans rfl
 have hf_g11_2:=blk_frozen BK_g11.out 2
 have hx_g11_3 : w15.cell? ⟨g11,3,none⟩ = some (.slice C3 c3.length r_3):=(blk_cell BK_g11.out 3).trans rfl
 have hf_g11_3:=blk_frozen BK_g11.out 3
 have hx_g11_4 : w15.cell? ⟨g11,4,none⟩ = some (.bool f3):=(blk_cell BK_g11.out 4).trans rfl
 have hf_g11_4:=blk_frozen BK_g11.out 4
 have hx_g11_5 : w15.cell? ⟨g11,5,none⟩ = some (.bool g3_):=(blk_cell BK_g11.out 5).trans rfl
 have hf_g11_5:=blk_frozen BK_g11.out 5
 have hx_g11_6 : w15.cell? ⟨g11,6,none⟩ = some (.bool h3):=(blk_cell BK_g11.out 6).trans rfl
 have hf_g11_6:=blk_frozen BK_g11.out 6
 have hx_g12_0 : w15.cell? ⟨g12,0,none⟩ = some (.int .u64 off):=(blk_cell BK_g12.out 0).trans rfl
 have hf_g12_0:=blk_frozen BK_g12.out 0
 have hx_g12_1 : w15.cell? ⟨g12,1,none⟩ = some (.slice M3 m3.length n3):=(blk_cell BK_g12.out 1).trans rfl
 have hf_g12_1:=blk_frozen BK_g12.out 1
 have hx_g12_2 : w15.cell? ⟨g12,2,none⟩ = some (.bool cf):=(blk_cell BK_g12.out 2).trans rfl
 have hf_g12_2:=blk_frozen BK_g12.out 2
 go_upto_region 9 with (first
  | ((with_reducible refine gate_callee (f:=11) rfl ?_);refine goesL_ (some 62) rfl rfl Try.func11 (by kernel_rfl) rfl #[.agg #[.int .u64 b3,.slice A3 d3.length p_3,.slice B3 t3.length q_3,.slice C3 c3.length r_3,.bool f3,.bool g3_,.bool h3],.agg #[.int .u64 off,.slice M3 m3.length n3,.bool cf]] rfl (by (try simp only [List.map_toArray,List.map_cons,List.map_nil]);first | done | rfl) ?_;refine (supply_Came.calls k b3 _ _ d3 _ _ t3 _ _ c3 f3 g3_ h3 off _ _ m3 cf _ _ _ _ _ _ _ _ (Kd.V_reads' O_d_3.out).2.2 (Kd.V_reads' O_d_3.out).2.1 (Kd.V_reads' O_t_3.out).2.2 (Kd.V_reads' O_t_3.out).2.1 (Kd.V_reads' O_c_3.out).2.2 (Kd.V_reads' O_c_3.out).2.1 (Kd.V_reads' O_m_3.out).2.2 (Kd.V_reads' O_m_3.out).2.1 P4.out).mono ?_;rintro e_ w16 ⟨u1,u2,u3,rfl,ho1,ho2,ho3,hb⟩;refine ⟨_,rfl,?_⟩;obtain ⟨p4,hp4⟩ : ∃ n_ : Nat,n_ = w15.heap.size:=⟨_,rfl⟩;obtain ⟨q4,hq4⟩ : ∃ n_ : Nat,n_ = w16.heap.size:=⟨_,rfl⟩;replace HCH:=Aside0.mk (And.intro HCH.out (show g12 < p4 ∧ p4 ≤ q4 by have h_:=HS.out;have h2_:=hb.size;omega));have O_d_4:=Aside0.mk (Kd.V_mono (Kd.V_bound ho1) (ok':=fun k_ => p4 ≤ k_ ∧ k_ < q4) (fun k_ hk_ => ⟨by rw [hp4];exact hk_.1,by rw [hq4];exact hk_.2⟩));have O_t_4:=Aside0.mk (Kd.V_mono (Kd.V_bound ho2) (ok':=fun k_ => p4 ≤ k_ ∧ k_ < q4) (fun k_ hk_ => ⟨by rw [hp4];exact hk_.1,by rw [hq4];exact hk_.2⟩));have O_c_4:=Aside0.mk (Kd.V_mono (Kd.V_bound ho3) (ok':=fun k_ => p4 ≤ k_ ∧ k_ < q4) (fun k_ hk_ => ⟨by rw [hp4];exact hk_.1,by rw [hq4];exact hk_.2⟩));clear ho1 ho2 ho3;clear hx_g11_0 hf_g11_0 hx_g11_1 hf_g11_1 hx_g11_2 hf_g11_2 hx_g11_3 hf_g11_3 hx_g11_4 hf_g11_4 hx_g11_5 hf_g11_5 hx_g11_6 hf_g11_6 hx_g12_0 hf_g12_0 hx_g12_1 hf_g12_1 hx_g12_2 hf_g12_2;have n127_:=Aside0.mk (below_step HB.out hb);have n128_:=Aside0.mk ((Nat.lt_of_lt_of_le (show _ < _ from HS.out) hb.size : g12 < w16.heap.size));have n129_:=Aside0.mk (blk_below BK_g7.out hb);have n130_:=Aside0.mk (blk_below BK_g9.out hb);have n131_:=Aside0.mk (blk_below BK_g11.out hb);have n132_:=Aside0.mk (blk_below BK_g12.out hb);have n133_:=Aside0.mk (Kd.V_below O_y.out hb);have n134_:=Aside0.mk (Kd.V_below O_d_1.out hb);have n135_:=Aside0.mk (Kd.V_below O_t_1.out hb);have n136_:=Aside0.mk (Kd.V_below O_c_1.out hb);have n137_:=Aside0.mk (Kd.R_below O_d_2.out hb);have n138_:=Aside0.mk (Kd.V_below O_t_2.out hb);have n139_:=Aside0.mk (Kd.V_below O_c_2.out hb);have n140_:=Aside0.mk (Kd.V_below O_d_3.out hb);have n141_:=Aside0.mk (Kd.V_below O_t_3.out hb);have n142_:=Aside0.mk (Kd.V_below O_c_3.out hb);have n143_:=Aside0.mk (Kd.V_below O_m_3.out hb);clear HB HS BK_g7 BK_g9 BK_g11 BK_g12 O_y O_d_1 O_t_1 O_c_1 O_d_2 O_t_2 O_c_2 O_d_3 O_t_3 O_c_3 O_m_3;have HB:=n127_;have HS:=n128_;have BK_g7:=n129_;have BK_g9:=n130_;have BK_g11:=n131_;have BK_g12:=n132_;have O_y:=n133_;have O_d_1:=n134_;have O_t_1:=n135_;have O_c_1:=n136_;have O_d_2:=n137_;have O_t_2:=n138_;have O_c_2:=n139_;have O_d_3:=n140_;have O_t_3:=n141_;have O_c_3:=n142_;have O_m_3:=n143_;clear n127_ n128_ n129_ n130_ n131_ n132_ n133_ n134_ n135_ n136_ n137_ n138_ n139_ n140_ n141_ n142_ n143_;replace HS:=Aside0.mk (show q4 ≤ w16.heap.size by rw [hq4];exact Nat.le_refl _);clear hb hp4 hq4;obtain ⟨A4,p_4,eo⟩:=Kd.V_slice O_d_4.out;subst eo;obtain ⟨B4,q_4,eo⟩:=Kd.V_slice O_t_4.out;subst eo;obtain ⟨C4,r_4,eo⟩:=Kd.V_slice O_c_4.out;subst eo)
  | ((with_reducible refine gate_dst (N:=14) rfl ?_);refine box_event ?hg (N:=14) ?hd (cs:=#[.int .u64 0,.slice none 0 0,.slice none 0 0,.slice none 0 0,.bool false,.bool false,.bool false]) (t:=27) ?hr ?_;(case hd => rfl);(case hg => rfl);(case hr => first | (go_simp;done) | (go_simp;rfl));intro g14 hg w17 hbox hb;have GE_g14:=Aside0.mk (show w.heap.size ≤ g14 by rw [hg];exact HB.out.size);have NB_g7_g14 : g7 ≠ g14:=(by rw [hg];exact Nat.ne_of_lt (blk_lt BK_g7.out));have NB_g14_g7:=NB_g7_g14.symm;have NB_g9_g14 : g9 ≠ g14:=(by rw [hg];exact Nat.ne_of_lt (blk_lt BK_g9.out));have NB_g14_g9:=NB_g9_g14.symm;have NB_g11_g14 : g11 ≠ g14:=(by rw [hg];exact Nat.ne_of_lt (blk_lt BK_g11.out));have NB_g14_g11:=NB_g11_g14.symm;have NB_g12_g14 : g12 ≠ g14:=(by rw [hg];exact Nat.ne_of_lt (blk_lt BK_g12.out));have NB_g14_g12:=NB_g12_g14.symm;replace HCH:=Aside0.mk (And.intro HCH.out (show q4 ≤ g14 by rw [hg];exact HS.out));have n144_:=Aside0.mk (below_step HB.out hb);have n145_:=Aside0.mk ((Nat.le_trans (show _ ≤ _ from HS.out) hb.size : q4 ≤ w17.heap.size));have n146_:=Aside0.mk (blk_below BK_g7.out hb);have n147_:=Aside0.mk (blk_below BK_g9.out hb);have n148_:=Aside0.mk (blk_below BK_g11.out hb);have n149_:=Aside0.mk (blk_below BK_g12.out hb);have n150_:=Aside0.mk (Kd.V_below O_y.out hb);have n151_:=Aside0.mk (Kd.V_below O_d_1.out hb);have n152_:=Aside0.mk (Kd.V_below O_t_1.out hb);have n153_:=Aside0.mk (Kd.V_below O_c_1.out hb);have n154_:=Aside0.mk (Kd.R_below O_d_2.out hb);have n155_:=Aside0.mk (Kd.V_below O_t_2.out hb);have n156_:=Aside0.mk (Kd.V_below O_c_2.out hb);have n157_:=Aside0.mk (Kd.V_below O_d_3.out hb);have n158_:=Aside0.mk (Kd.V_below O_t_3.out hb);have n159_:=Aside0.mk (Kd.V_below O_c_3.out hb);have n160_:=Aside0.mk (Kd.V_below O_m_3.out hb);have n161_:=Aside0.mk (Kd.V_below O_d_4.out hb);have n162_:=Aside0.mk (Kd.V_below O_t_4.out hb);have n163_:=Aside0.mk (Kd.V_below O_c_4.out hb);clear HB HS BK_g7 BK_g9 BK_g11 BK_g12 O_y O_d_1 O_t_1 O_c_1 O_d_2 O_t_2 O_c_2 O_d_3 O_t_3 O_c_3 O_m_3 O_d_4 O_t_4 O_c_4;have HB:=n144_;have HS:=n145_;have BK_g7:=n146_;have BK_g9:=n147_;have BK_g11:=n148_;have BK_g12:=n149_;have O_y:=n150_;have O_d_1:=n151_;have O_t_1:=n152_;have O_c_1:=n153_;have O_d_2:=n154_;have O_t_2:=n155_;have O_c_2:=n156_;have O_d_3:=n157_;have O_t_3:=n158_;have O_c_3:=n159_;have O_m_3:=n160_;have O_d_4:=n161_;have O_t_4:=n162_;have O_c_4:=n163_;clear n144_ n145_ n146_ n147_ n148_ n149_ n150_ n151_ n152_ n153_ n154_ n155_ n156_ n157_ n158_ n159_ n160_ n161_ n162_ n163_;replace HS:=Aside0.mk (show g14 < w17.heap.size from blk_lt hbox);have BK_g14:=Aside0.mk hbox;clear hbox hb hg;have hx_g14_0 : w17.cell? ⟨g14,0,none⟩ = some (.int .u64 0):=(blk_cell BK_g14.out 0).trans rfl;have hf_g14_0:=blk_frozen BK_g14.out 0;have hx_g14_1 : w17.cell? ⟨g14,1,none⟩ = some (.slice none 0 0):=(blk_cell BK_g14.out 1).trans rfl;have hf_g14_1:=blk_frozen BK_g14.out 1;have hx_g14_2 : w17.cell? ⟨g14,2,none⟩ = some (.slice none 0 0):=(blk_cell BK_g14.out 2).trans rfl;have hf_g14_2:=blk_frozen BK_g14.out 2;have hx_g14_3 : w17.cell? ⟨g14,3,none⟩ = some (.slice none 0 0):=(blk_cell BK_g14.out 3).trans rfl;have hf_g14_3:=blk_frozen BK_g14.out 3;have hx_g14_4 : w17.cell? ⟨g14,4,none⟩ = some (.bool false):=(blk_cell BK_g14.out 4).trans rfl;have hf_g14_4:=blk_frozen BK_g14.out 4;have hx_g14_5 : w17.cell? ⟨g14,5,none⟩ = some (.bool false):=(blk_cell BK_g14.out 5).trans rfl;have hf_g14_5:=blk_frozen BK_g14.out 5;have hx_g14_6 : w17.cell? ⟨g14,6,none⟩ = some (.bool false):=(blk_cell BK_g14.out 6).trans rfl;have hf_g14_6:=blk_frozen BK_g14.out 6))
 clear hx_g14_0 hf_g14_0 hx_g14_1 hf_g14_1 hx_g14_2 hf_g14_2 hx_g14_3 hf_g14_3 hx_g14_4 hf_g14_4 hx_g14_5 hf_g14_5 hx_g14_6 hf_g14_6
 obtain ⟨w18,hw164_⟩ : ∃ w_ : World,set7 w17 g14 (.int .u64 b4) (.slice A4 d4.length p_4) (.slice B4 t4.length q_4) (.slice C4 c4.length r_4) (.bool f4) (.bool g4_) (.bool h4) = w_:=⟨_,rfl⟩
 have n165_:=Aside0.mk (blk7 hw164_ BK_g14.out)
 have n166_:=Aside0.mk (far7 hw164_ NB_g7_g14 BK_g7.out)
 have n167_:=Aside0.mk (far7 hw164_ NB_g9_g14 BK_g9.out)
 have n168_:=Aside0.mk (far7 hw164_ NB_g11_g14 BK_g11.out)
 have n169_:=Aside0.mk (far7 hw164_ NB_g12_g14 BK_g12.out)
 have n170_:=Aside0.mk (V7o hw164_ (fun k_ hk_ => by have h_:=HCH.out;omega) O_y.out)
 have n171_:=Aside0.mk (V7o hw164_ (fun k_ hk_ => by have h_:=HCH.out;omega) O_d_1.out)
 have n172_:=Aside0.mk (V7o hw164_ (fun k_ hk_ => by have h_:=HCH.out;omega) O_t_1.out)
 have n173_:=Aside0.mk (V7o hw164_ (fun k_ hk_ => by have h_:=HCH.out;omega) O_c_1.out)
 have n174_:=Aside0.mk (R7o hw164_ (fun k_ hk_ => by have h_:=HCH.out;omega) O_d_2.out)
 have n175_:=Aside0.mk (V7o hw164_ (fun k_ hk_ => by have h_:=HCH.out;omega) O_t_2.out)
 have n176_:=Aside0.mk (V7o hw164_ (fun k_ hk_ => by have h_:=HCH.out;omega) O_c_2.out)
 have n177_:=Aside0.mk (V7o hw164_ (fun k_ hk_ => by have h_:=HCH.out;omega) O_d_3.out)
 have n178_:=Aside0.mk (V7o hw164_ (fun k_ hk_ => by have h_:=HCH.out;omega) O_t_3.out)
 have n179_:=Aside0.mk (V7o hw164_ (fun k_ hk_ => by have h_:=HCH.out;omega) O_c_3.out)
 have n180_:=Aside0.mk (V7o hw164_ (fun k_ hk_ => by have h_:=HCH.out;omega) O_m_3.out)
 have n181_:=Aside0.mk (V7o hw164_ (fun k_ hk_ => by have h_:=HCH.out;omega) O_d_4.out)
 have n182_:=Aside0.mk (V7o hw164_ (fun k_ hk_ => by have h_:=HCH.out;omega) O_t_4.out)
 have n183_:=Aside0.mk (V7o hw164_ (fun k_ hk_ => by have h_:=HCH.out;omega) O_c_4.out)
 have n184_:=Aside0.mk (below7 hw164_ GE_g14.out HB.out)
 have n185_:=Aside0.mk ((size7 hw164_).symm ▸ HS.out)
 rw [set7_fold,hw164_]
 clear hw164_ BK_g14 BK_g7 BK_g9 BK_g11 BK_g12 O_y O_d_1 O_t_1 O_c_1 O_d_2 O_t_2 O_c_2 O_d_3 O_t_3 O_c_3 O_m_3 O_d_4 O_t_4 O_c_4 HB HS
 have BK_g14:=n165_
 have BK_g7:=n166_
 have BK_g9:=n167_
 have BK_g11:=n168_
 have BK_g12:=n169_
 have O_y:=n170_
 have O_d_1:=n171_
 have O_t_1:=n172_
 have O_c_1:=n173_
 have O_d_2:=n174_
 have O_t_2:=n175_
 have O_c_2:=n176_
 have O_d_3:=n177_
 have O_t_3:=n178_
 have O_c_3:=n179_
 have O_m_3:=n180_
 have O_d_4:=n181_
 have O_t_4:=n182_
 have O_c_4:=n183_
 have HB:=n184_
 have HS:=n185_
 clear n165_ n166_ n167_ n168_ n169_ n170_ n171_ n172_ n173_ n174_ n175_ n176_ n177_ n178_ n179_ n180_ n181_ n182_ n183_ n184_ n185_
 have hx_g11_0 : w18.cell? ⟨g11,0,none⟩ = some (.int .u64 b3):=(blk_cell BK_g11.out 0).trans rfl
 have hf_g11_0:=blk_frozen BK_g11.out 0
 have hx_g11_1 : w18.cell? ⟨g11,1,none⟩ = some (.slice A3 d3.length p_3):=(blk_cell BK_g11.out 1).trans rfl
 have hf_g11_1:=blk_frozen BK_g11.out 1
 have hx_g11_2 : w18.cell? ⟨g11,2,none⟩ = some (.slice B3 t3.length q_3):=(blk_cell BK_g11.out 2).trans rfl
 have hf_g11_2:=blk_frozen BK_g11.out 2
 have hx_g11_3 : w18.cell? ⟨g11,3,none⟩ = some (.slice C3 c3.length r_3):=(blk_cell BK_g11.out 3).trans rfl
 have hf_g11_3:=blk_frozen BK_g11.out 3
 have hx_g11_4 : w18.cell? ⟨g11,4,none⟩ = some (.bool f3):=(blk_cell BK_g11.out 4).trans rfl
 have hf_g11_4:=blk_frozen BK_g11.out 4
 have hx_g11_5 : w18.cell? ⟨g11,5,none⟩ = some (.bool g3_):=(blk_cell BK_g11.out 5).trans rfl
 have hf_g11_5:=blk_frozen BK_g11.out 5
 have hx_g11_6 : w18.cell? ⟨g11,6,none⟩ = some (.bool h3):=(blk_cell BK_g11.out 6).trans rfl
 have hf_g11_6:=blk_frozen BK_g11.out 6
 have hx_g12_0 : w18.cell? ⟨g12,0,none⟩ = some (.int .u64 off):=(blk_cell BK_g12.out 0).trans rfl
 have hf_g12_0:=blk_frozen BK_g12.out 0
 have hx_g12_1 : w18.cell? ⟨g12,1,none⟩ = some (.slice M3 m3.length n3):=(blk_cell BK_g12.out 1).trans rfl
 have hf_g12_1:=blk_frozen BK_g12.out 1
 have hx_g12_2 : w18.cell? ⟨g12,2,none⟩ = some (.bool cf):=(blk_cell BK_g12.out 2).trans rfl
 have hf_g12_2:=blk_frozen BK_g12.out 2
 go_upto_region 10 with (first
  | ((with_reducible refine gate_callee (f:=12) rfl ?_);refine goesL_ (some 65) rfl rfl Try.func12 (by kernel_rfl) rfl #[.agg #[.int .u64 b3,.slice A3 d3.length p_3,.slice B3 t3.length q_3,.slice C3 c3.length r_3,.bool f3,.bool g3_,.bool h3],.agg #[.int .u64 off,.slice M3 m3.length n3,.bool cf]] rfl (by (try simp only [List.map_toArray,List.map_cons,List.map_nil]);first | done | rfl) ?_;refine (supply_Lost.calls k b3 _ _ d3 _ _ t3 _ _ c3 f3 g3_ h3 off _ _ m3 cf _ _ _ _ _ _ _ _ (Kd.V_reads' O_d_3.out).2.2 (Kd.V_reads' O_d_3.out).2.1 (Kd.V_reads' O_t_3.out).2.2 (Kd.V_reads' O_t_3.out).2.1 (Kd.V_reads' O_c_3.out).2.2 (Kd.V_reads' O_c_3.out).2.1 (Kd.V_reads' O_m_3.out).2.2 (Kd.V_reads' O_m_3.out).2.1 P5.out).mono ?_;rintro e_ w19 ⟨u1,u2,u3,rfl,ho1,ho2,ho3,hb⟩;refine ⟨_,rfl,?_⟩;obtain ⟨p5,hp5⟩ : ∃ n_ : Nat,n_ = w18.heap.size:=⟨_,rfl⟩;obtain ⟨q5,hq5⟩ : ∃ n_ : Nat,n_ = w19.heap.size:=⟨_,rfl⟩;replace HCH:=Aside0.mk (And.intro HCH.out (show g14 < p5 ∧ p5 ≤ q5 by have h_:=HS.out;have h2_:=hb.size;omega));have O_d_5:=Aside0.mk (Kd.R_mono (Kd.R_bound ho1) (ok':=fun k_ => p5 ≤ k_ ∧ k_ < q5) (fun k_ hk_ => ⟨by rw [hp5];exact hk_.2.1,by rw [hq5];exact hk_.2.2.1⟩));have O_t_5:=Aside0.mk (Kd.R_mono (Kd.R_bound ho2) (ok':=fun k_ => p5 ≤ k_ ∧ k_ < q5) (fun k_ hk_ => ⟨by rw [hp5];exact hk_.2.1,by rw [hq5];exact hk_.2.2.1⟩));have O_c_5:=Aside0.mk (Kd.R_V (base':=w18.heap.size) (Kd.R_mono (Kd.R_bound ho3) (ok':=fun k_ => p5 ≤ k_ ∧ k_ < q5) (fun k_ hk_ => ⟨by rw [hp5];exact hk_.2.1,by rw [hq5];exact hk_.2.2.1⟩)));clear ho1 ho2 ho3;clear hx_g11_0 hf_g11_0 hx_g11_1 hf_g11_1 hx_g11_2 hf_g11_2 hx_g11_3 hf_g11_3 hx_g11_4 hf_g11_4 hx_g11_5 hf_g11_5 hx_g11_6 hf_g11_6 hx_g12_0 hf_g12_0 hx_g12_1 hf_g12_1 hx_g12_2 hf_g12_2;have n186_:=Aside0.mk (below_step HB.out hb);have n187_:=Aside0.mk ((Nat.lt_of_lt_of_le (show _ < _ from HS.out) hb.size : g14 < w19.heap.size));have n188_:=Aside0.mk (blk_below BK_g7.out hb);have n189_:=Aside0.mk (blk_below BK_g9.out hb);have n190_:=Aside0.mk (blk_below BK_g11.out hb);have n191_:=Aside0.mk (blk_below BK_g12.out hb);have n192_:=Aside0.mk (blk_below BK_g14.out hb);have n193_:=Aside0.mk (Kd.V_below O_y.out hb);have n194_:=Aside0.mk (Kd.V_below O_d_1.out hb);have n195_:=Aside0.mk (Kd.V_below O_t_1.out hb);have n196_:=Aside0.mk (Kd.V_below O_c_1.out hb);have n197_:=Aside0.mk (Kd.R_below O_d_2.out hb);have n198_:=Aside0.mk (Kd.V_below O_t_2.out hb);have n199_:=Aside0.mk (Kd.V_below O_c_2.out hb);have n200_:=Aside0.mk (Kd.V_below O_d_3.out hb);have n201_:=Aside0.mk (Kd.V_below O_t_3.out hb);have n202_:=Aside0.mk (Kd.V_below O_c_3.out hb);have n203_:=Aside0.mk (Kd.V_below O_m_3.out hb);have n204_:=Aside0.mk (Kd.V_below O_d_4.out hb);have n205_:=Aside0.mk (Kd.V_below O_t_4.out hb);have n206_:=Aside0.mk (Kd.V_below O_c_4.out hb);clear HB HS BK_g7 BK_g9 BK_g11 BK_g12 BK_g14 O_y O_d_1 O_t_1 O_c_1 O_d_2 O_t_2 O_c_2 O_d_3 O_t_3 O_c_3 O_m_3 O_d_4 O_t_4 O_c_4;have HB:=n186_;have HS:=n187_;have BK_g7:=n188_;have BK_g9:=n189_;have BK_g11:=n190_;have BK_g12:=n191_;have BK_g14:=n192_;have O_y:=n193_;have O_d_1:=n194_;have O_t_1:=n195_;have O_c_1:=n196_;have O_d_2:=n197_;have O_t_2:=n198_;have O_c_2:=n199_;have O_d_3:=n200_;have O_t_3:=n201_;have O_c_3:=n202_;have O_m_3:=n203_;have O_d_4:=n204_;have O_t_4:=n205_;have O_c_4:=n206_;clear n186_ n187_ n188_ n189_ n190_ n191_ n192_ n193_ n194_ n195_ n196_ n197_ n198_ n199_ n200_ n201_ n202_ n203_ n204_ n205_ n206_;replace HS:=Aside0.mk (show q5 ≤ w19.heap.size by rw [hq5];exact Nat.le_refl _);clear hb hp5 hq5;obtain ⟨A5,p_5,eo⟩:=Kd.R_slice O_d_5.out;subst eo;obtain ⟨B5,q_5,eo⟩:=Kd.R_slice O_t_5.out;subst eo;obtain ⟨C5,r_5,eo⟩:=Kd.V_slice O_c_5.out;subst eo)
  | ((with_reducible refine gate_dst (N:=15) rfl ?_);refine box_event ?hg (N:=15) ?hd (cs:=#[.int .u64 0,.slice none 0 0,.slice none 0 0,.slice none 0 0,.bool false,.bool false,.bool false]) (t:=27) ?hr ?_;(case hd => rfl);(case hg => rfl);(case hr => first | (go_simp;done) | (go_simp;rfl));intro g15 hg w20 hbox hb;have GE_g15:=Aside0.mk (show w.heap.size ≤ g15 by rw [hg];exact HB.out.size);have NB_g7_g15 : g7 ≠ g15:=(by rw [hg];exact Nat.ne_of_lt (blk_lt BK_g7.out));have NB_g15_g7:=NB_g7_g15.symm;have NB_g9_g15 : g9 ≠ g15:=(by rw [hg];exact Nat.ne_of_lt (blk_lt BK_g9.out));have NB_g15_g9:=NB_g9_g15.symm;have NB_g11_g15 : g11 ≠ g15:=(by rw [hg];exact Nat.ne_of_lt (blk_lt BK_g11.out));have NB_g15_g11:=NB_g11_g15.symm;have NB_g12_g15 : g12 ≠ g15:=(by rw [hg];exact Nat.ne_of_lt (blk_lt BK_g12.out));have NB_g15_g12:=NB_g12_g15.symm;have NB_g14_g15 : g14 ≠ g15:=(by rw [hg];exact Nat.ne_of_lt (blk_lt BK_g14.out));have NB_g15_g14:=NB_g14_g15.symm;replace HCH:=Aside0.mk (And.intro HCH.out (show q5 ≤ g15 by rw [hg];exact HS.out));have n207_:=Aside0.mk (below_step HB.out hb);have n208_:=Aside0.mk ((Nat.le_trans (show _ ≤ _ from HS.out) hb.size : q5 ≤ w20.heap.size));have n209_:=Aside0.mk (blk_below BK_g7.out hb);have n210_:=Aside0.mk (blk_below BK_g9.out hb);have n211_:=Aside0.mk (blk_below BK_g11.out hb);have n212_:=Aside0.mk (blk_below BK_g12.out hb);have n213_:=Aside0.mk (blk_below BK_g14.out hb);have n214_:=Aside0.mk (Kd.V_below O_y.out hb);have n215_:=Aside0.mk (Kd.V_below O_d_1.out hb);have n216_:=Aside0.mk (Kd.V_below O_t_1.out hb);have n217_:=Aside0.mk (Kd.V_below O_c_1.out hb);have n218_:=Aside0.mk (Kd.R_below O_d_2.out hb);have n219_:=Aside0.mk (Kd.V_below O_t_2.out hb);have n220_:=Aside0.mk (Kd.V_below O_c_2.out hb);have n221_:=Aside0.mk (Kd.V_below O_d_3.out hb);have n222_:=Aside0.mk (Kd.V_below O_t_3.out hb);have n223_:=Aside0.mk (Kd.V_below O_c_3.out hb);have n224_:=Aside0.mk (Kd.V_below O_m_3.out hb);have n225_:=Aside0.mk (Kd.V_below O_d_4.out hb);have n226_:=Aside0.mk (Kd.V_below O_t_4.out hb);have n227_:=Aside0.mk (Kd.V_below O_c_4.out hb);have n228_:=Aside0.mk (Kd.R_below O_d_5.out hb);have n229_:=Aside0.mk (Kd.R_below O_t_5.out hb);have n230_:=Aside0.mk (Kd.V_below O_c_5.out hb);clear HB HS BK_g7 BK_g9 BK_g11 BK_g12 BK_g14 O_y O_d_1 O_t_1 O_c_1 O_d_2 O_t_2 O_c_2 O_d_3 O_t_3 O_c_3 O_m_3 O_d_4 O_t_4 O_c_4 O_d_5 O_t_5 O_c_5;have HB:=n207_;have HS:=n208_;have BK_g7:=n209_;have BK_g9:=n210_;have BK_g11:=n211_;have BK_g12:=n212_;have BK_g14:=n213_;have O_y:=n214_;have O_d_1:=n215_;have O_t_1:=n216_;have O_c_1:=n217_;have O_d_2:=n218_;have O_t_2:=n219_;have O_c_2:=n220_;have O_d_3:=n221_;have O_t_3:=n222_;have O_c_3:=n223_;have O_m_3:=n224_;have O_d_4:=n225_;have O_t_4:=n226_;have O_c_4:=n227_;have O_d_5:=n228_;have O_t_5:=n229_;have O_c_5:=n230_;clear n207_ n208_ n209_ n210_ n211_ n212_ n213_ n214_ n215_ n216_ n217_ n218_ n219_ n220_ n221_ n222_ n223_ n224_ n225_ n226_ n227_ n228_ n229_ n230_;replace HS:=Aside0.mk (show g15 < w20.heap.size from blk_lt hbox);have BK_g15:=Aside0.mk hbox;clear hbox hb hg;have hx_g15_0 : w20.cell? ⟨g15,0,none⟩ = some (.int .u64 0):=(blk_cell BK_g15.out 0).trans rfl;have hf_g15_0:=blk_frozen BK_g15.out 0;have hx_g15_1 : w20.cell? ⟨g15,1,none⟩ = some (.slice none 0 0):=(blk_cell BK_g15.out 1).trans rfl;have hf_g15_1:=blk_frozen BK_g15.out 1;have hx_g15_2 : w20.cell? ⟨g15,2,none⟩ = some (.slice none 0 0):=(blk_cell BK_g15.out 2).trans rfl;have hf_g15_2:=blk_frozen BK_g15.out 2;have hx_g15_3 : w20.cell? ⟨g15,3,none⟩ = some (.slice none 0 0):=(blk_cell BK_g15.out 3).trans rfl;have hf_g15_3:=blk_frozen BK_g15.out 3;have hx_g15_4 : w20.cell? ⟨g15,4,none⟩ = some (.bool false):=(blk_cell BK_g15.out 4).trans rfl;have hf_g15_4:=blk_frozen BK_g15.out 4;have hx_g15_5 : w20.cell? ⟨g15,5,none⟩ = some (.bool false):=(blk_cell BK_g15.out 5).trans rfl;have hf_g15_5:=blk_frozen BK_g15.out 5;have hx_g15_6 : w20.cell? ⟨g15,6,none⟩ = some (.bool false):=(blk_cell BK_g15.out 6).trans rfl;have hf_g15_6:=blk_frozen BK_g15.out 6))
 clear hx_g15_0 hf_g15_0 hx_g15_1 hf_g15_1 hx_g15_2 hf_g15_2 hx_g15_3 hf_g15_3 hx_g15_4 hf_g15_4 hx_g15_5 hf_g15_5 hx_g15_6 hf_g15_6
 obtain ⟨w21,hw231_⟩ : ∃ w_ : World,set7 w20 g15 (.int .u64 b5) (.slice A5 d5.length p_5) (.slice B5 t5.length q_5) (.slice C5 c5.length r_5) (.bool f5) (.bool g5_) (.bool h5) = w_:=⟨_,rfl⟩
 have n232_:=Aside0.mk (blk7 hw231_ BK_g15.out)
 have n233_:=Aside0.mk (far7 hw231_ NB_g7_g15 BK_g7.out)
 have n234_:=Aside0.mk (far7 hw231_ NB_g9_g15 BK_g9.out)
 have n235_:=Aside0.mk (far7 hw231_ NB_g11_g15 BK_g11.out)
 have n236_:=Aside0.mk (far7 hw231_ NB_g12_g15 BK_g12.out)
 have n237_:=Aside0.mk (far7 hw231_ NB_g14_g15 BK_g14.out)
 have n238_:=Aside0.mk (V7o hw231_ (fun k_ hk_ => by have h_:=HCH.out;omega) O_y.out)
 have n239_:=Aside0.mk (V7o hw231_ (fun k_ hk_ => by have h_:=HCH.out;omega) O_d_1.out)
 have n240_:=Aside0.mk (V7o hw231_ (fun k_ hk_ => by have h_:=HCH.out;omega) O_t_1.out)
 have n241_:=Aside0.mk (V7o hw231_ (fun k_ hk_ => by have h_:=HCH.out;omega) O_c_1.out)
 have n242_:=Aside0.mk (R7o hw231_ (fun k_ hk_ => by have h_:=HCH.out;omega) O_d_2.out)
 have n243_:=Aside0.mk (V7o hw231_ (fun k_ hk_ => by have h_:=HCH.out;omega) O_t_2.out)
 have n244_:=Aside0.mk (V7o hw231_ (fun k_ hk_ => by have h_:=HCH.out;omega) O_c_2.out)
 have n245_:=Aside0.mk (V7o hw231_ (fun k_ hk_ => by have h_:=HCH.out;omega) O_d_3.out)
 have n246_:=Aside0.mk (V7o hw231_ (fun k_ hk_ => by have h_:=HCH.out;omega) O_t_3.out)
 have n247_:=Aside0.mk (V7o hw231_ (fun k_ hk_ => by have h_:=HCH.out;omega) O_c_3.out)
 have n248_:=Aside0.mk (V7o hw231_ (fun k_ hk_ => by have h_:=HCH.out;omega) O_m_3.out)
 have n249_:=Aside0.mk (V7o hw231_ (fun k_ hk_ => by have h_:=HCH.out;omega) O_d_4.out)
 have n250_:=Aside0.mk (V7o hw231_ (fun k_ hk_ => by have h_:=HCH.out;omega) O_t_4.out)
 have n251_:=Aside0.mk (V7o hw231_ (fun k_ hk_ => by have h_:=HCH.out;omega) O_c_4.out)
 have n252_:=Aside0.mk (R7o hw231_ (fun k_ hk_ => by have h_:=HCH.out;omega) O_d_5.out)
 have n253_:=Aside0.mk (R7o hw231_ (fun k_ hk_ => by have h_:=HCH.out;omega) O_t_5.out)
 have n254_:=Aside0.mk (V7o hw231_ (fun k_ hk_ => by have h_:=HCH.out;omega) O_c_5.out)
 have n255_:=Aside0.mk (below7 hw231_ GE_g15.out HB.out)
 have n256_:=Aside0.mk ((size7 hw231_).symm ▸ HS.out)
 rw [set7_fold,hw231_]
 clear hw231_ BK_g15 BK_g7 BK_g9 BK_g11 BK_g12 BK_g14 O_y O_d_1 O_t_1 O_c_1 O_d_2 O_t_2 O_c_2 O_d_3 O_t_3 O_c_3 O_m_3 O_d_4 O_t_4 O_c_4 O_d_5 O_t_5 O_c_5 HB HS
 have BK_g15:=n232_
 have BK_g7:=n233_
 have BK_g9:=n234_
 have BK_g11:=n235_
 have BK_g12:=n236_
 have BK_g14:=n237_
 have O_y:=n238_
 have O_d_1:=n239_
 have O_t_1:=n240_
 have O_c_1:=n241_
 have O_d_2:=n242_
 have O_t_2:=n243_
 have O_c_2:=n244_
 have O_d_3:=n245_
 have O_t_3:=n246_
 have O_c_3:=n247_
 have O_m_3:=n248_
 have O_d_4:=n249_
 have O_t_4:=n250_
 have O_c_4:=n251_
 have O_d_5:=n252_
 have O_t_5:=n253_
 have O_c_5:=n254_
 have HB:=n255_
 have HS:=n256_
 clear n232_ n233_ n234_ n235_ n236_ n237_ n238_ n239_ n240_ n241_ n242_ n243_ n244_ n245_ n246_ n247_ n248_ n249_ n250_ n251_ n252_ n253_ n254_ n255_ n256_
 clear BK_g12
 clear O_t_2 O_c_2 O_c_5 O_m_3
 have hx_g9_0 : w21.cell? ⟨g9,0,none⟩ = some (.int .u64 b2):=(blk_cell BK_g9.out 0).trans rfl
 have hf_g9_0:=blk_frozen BK_g9.out 0
 have hx_g9_1 : w21.cell? ⟨g9,1,none⟩ = some (.slice A2 d2.length p_2):=(blk_cell BK_g9.out 1).trans rfl
 have hf_g9_1:=blk_frozen BK_g9.out 1
 have hx_g9_2 : w21.cell? ⟨g9,2,none⟩ = some (.slice B2 t2.length q_2):=(blk_cell BK_g9.out 2).trans rfl
 have hf_g9_2:=blk_frozen BK_g9.out 2
 have hx_g9_3 : w21.cell? ⟨g9,3,none⟩ = some (.slice C2 c2.length r_2):=(blk_cell BK_g9.out 3).trans rfl
 have hf_g9_3:=blk_frozen BK_g9.out 3
 have hx_g9_4 : w21.cell? ⟨g9,4,none⟩ = some (.bool f2):=(blk_cell BK_g9.out 4).trans rfl
 have hf_g9_4:=blk_frozen BK_g9.out 4
 have hx_g9_5 : w21.cell? ⟨g9,5,none⟩ = some (.bool g2_):=(blk_cell BK_g9.out 5).trans rfl
 have hf_g9_5:=blk_frozen BK_g9.out 5
 have hx_g9_6 : w21.cell? ⟨g9,6,none⟩ = some (.bool h2):=(blk_cell BK_g9.out 6).trans rfl
 have hf_g9_6:=blk_frozen BK_g9.out 6
 go_wp2_with fail
 have HNd_2:=Aside0.mk (len_lt (A:=_) (c:=p_2) O_d_2.out)
 have HNd_5:=Aside0.mk (len_lt (A:=_) (c:=p_5) O_d_5.out)
 have HNt_5:=Aside0.mk (len_lt (A:=_) (c:=q_5) O_t_5.out)
 go_loopg [16] d2.length (fun kq v16 w' => ∃ (i : Int) (L : List Int),v16 = .int .i64 i ∧ Aside0 (0 ≤ i ∧ i + kq = d2.length ∧ L.length = d2.length) ∧ Aside0 (Kd.R (Kd.int .u8) 5 w' w7.heap.size (fun k_ => p2 ≤ k_ ∧ k_ < q2) (.slice A2 d2.length p_2) (L)) ∧ Aside0 (w'.heap[g7]? = some (.cells #[.int .u64 b1,.slice A1 d1.length p_1,.slice B1 t1.length q_1,.slice C1 c1.length r_1,.bool f1,.bool g1_,.bool h1] 27 (0,0))) ∧ Aside0 (w'.heap[g9]? = some (.cells #[.int .u64 b2,.slice A2 d2.length p_2,.slice B2 t2.length q_2,.slice C2 c2.length r_2,.bool f2,.bool g2_,.bool h2] 27 (0,0))) ∧ Aside0 (w'.heap[g11]? = some (.cells #[.int .u64 b3,.slice A3 d3.length p_3,.slice B3 t3.length q_3,.slice C3 c3.length r_3,.bool f3,.bool g3_,.bool h3] 27 (0,0))) ∧ Aside0 (w'.heap[g14]? = some (.cells #[.int .u64 b4,.slice A4 d4.length p_4,.slice B4 t4.length q_4,.slice C4 c4.length r_4,.bool f4,.bool g4_,.bool h4] 27 (0,0))) ∧ Aside0 (w'.heap[g15]? = some (.cells #[.int .u64 b5,.slice A5 d5.length p_5,.slice B5 t5.length q_5,.slice C5 c5.length r_5,.bool f5,.bool g5_,.bool h5] 27 (0,0))) ∧ Aside0 (Kd.V (Kd.int .u8) 5 w' w.heap.size (fun k_ => w.heap.size ≤ k_ ∧ k_ < q0) (.slice Ay l0.length cy) (l0)) ∧ Aside0 (Kd.V (Kd.int .u8) 5 w' w3.heap.size (fun k_ => p1 ≤ k_ ∧ k_ < q1) (.slice A1 d1.length p_1) (d1)) ∧ Aside0 (Kd.V k37 37 w' w3.heap.size (fun k_ => p1 ≤ k_ ∧ k_ < q1) (.slice B1 t1.length q_1) (t1)) ∧ Aside0 (Kd.V k37 37 w' w3.heap.size (fun k_ => p1 ≤ k_ ∧ k_ < q1) (.slice C1 c1.length r_1) (c1)) ∧ Aside0 (Kd.V (Kd.int .u8) 5 w' w10.heap.size (fun k_ => p3 ≤ k_ ∧ k_ < q3) (.slice A3 d3.length p_3) (d3)) ∧ Aside0 (Kd.V k37 37 w' w10.heap.size (fun k_ => p3 ≤ k_ ∧ k_ < q3) (.slice B3 t3.length q_3) (t3)) ∧ Aside0 (Kd.V k37 37 w' w10.heap.size (fun k_ => p3 ≤ k_ ∧ k_ < q3) (.slice C3 c3.length r_3) (c3)) ∧ Aside0 (Kd.V (Kd.int .u8) 5 w' w15.heap.size (fun k_ => p4 ≤ k_ ∧ k_ < q4) (.slice A4 d4.length p_4) (d4)) ∧ Aside0 (Kd.V k37 37 w' w15.heap.size (fun k_ => p4 ≤ k_ ∧ k_ < q4) (.slice B4 t4.length q_4) (t4)) ∧ Aside0 (Kd.V k37 37 w' w15.heap.size (fun k_ => p4 ≤ k_ ∧ k_ < q4) (.slice C4 c4.length r_4) (c4)) ∧ Aside0 (Kd.R (Kd.int .u8) 5 w' w18.heap.size (fun k_ => p5 ≤ k_ ∧ k_ < q5) (.slice A5 d5.length p_5) (d5)) ∧ Aside0 (Kd.R k37 37 w' w18.heap.size (fun k_ => p5 ≤ k_ ∧ k_ < q5) (.slice B5 t5.length q_5) (t5)) ∧ Aside0 (g15 < w'.heap.size) ∧ Aside0 (Below w.heap.size w w'))
 case atStart => exact ⟨0,_,rfl,⟨by simp⟩,O_d_2,BK_g7,BK_g9,BK_g11,BK_g14,BK_g15,O_y,O_d_1,O_t_1,O_c_1,O_d_3,O_t_3,O_c_3,O_d_4,O_t_4,O_c_4,O_d_5,O_t_5,HS,HB⟩
 case round =>
 clear hx_g9_0 hf_g9_0 hx_g9_1 hf_g9_1 hx_g9_2 hf_g9_2 hx_g9_3 hf_g9_3 hx_g9_4 hf_g9_4 hx_g9_5 hf_g9_5 hx_g9_6 hf_g9_6
 clear O_d_2 BK_g7 BK_g9 BK_g11 BK_g14 BK_g15 O_y O_d_1 O_t_1 O_c_1 O_d_3 O_t_3 O_c_3 O_d_4 O_t_4 O_c_4 O_d_5 O_t_5 HS HB
 obtain ⟨i,Lx,rfl,HI2,O_d_2,BK_g7,BK_g9,BK_g11,BK_g14,BK_g15,O_y,O_d_1,O_t_1,O_c_1,O_d_3,O_t_3,O_c_3,O_d_4,O_t_4,O_c_4,O_d_5,O_t_5,HS,HB⟩:=hrel
 have hl_:=HI2.out.2.2
 by_cases ci : i < (d2.length : Int)
 case pos =>
  have cib : decide (i < (d2.length : Int)) = true:=decide_eq_true ci
  cases gk with
  | zero => exact absurd HI2.out.2.1 (by omega)
  | succ k1 =>
   have p_ : 0 ≤ (i : Int):=HI2.out.1
   have q_ : (i : Int) < ((d2.length : Nat) : Int):=ci
   obtain ⟨go,co,eo,gb,gl,cl,HG⟩:=Kd.R_form O_d_2.out (by omega)
   injection eo with ea_ en_ ec_
   subst ea_ ec_
   clear en_ gl cl HG
   have hgo:=O_d_2.out.1 go (by simp [Value.ownBlock])
   obtain ⟨hx_,hf_⟩:=Kd.R_celln 0 O_d_2.out (i : Int) p_ q_
   have HP:=Kd.R_putg O_d_2.out (i : Int) 99
   have GB:=Aside0.mk (show w.heap.size ≤ go by have h_:=HCH.out;omega)
   have HGO:=Aside0.mk hgo
   clear hgo gb
   replace p_:=eq_true p_
   replace q_:=eq_true q_
   have hx_g9_0 : wr.cell? ⟨g9,0,none⟩ = some (.int .u64 b2):=(blk_cell BK_g9.out 0).trans rfl
   have hf_g9_0:=blk_frozen BK_g9.out 0
   have hx_g9_1 : wr.cell? ⟨g9,1,none⟩ = some (.slice (some ⟨go,0,none⟩) d2.length p_2):=(blk_cell BK_g9.out 1).trans rfl
   have hf_g9_1:=blk_frozen BK_g9.out 1
   have hx_g9_2 : wr.cell? ⟨g9,2,none⟩ = some (.slice B2 t2.length q_2):=(blk_cell BK_g9.out 2).trans rfl
   have hf_g9_2:=blk_frozen BK_g9.out 2
   have hx_g9_3 : wr.cell? ⟨g9,3,none⟩ = some (.slice C2 c2.length r_2):=(blk_cell BK_g9.out 3).trans rfl
   have hf_g9_3:=blk_frozen BK_g9.out 3
   have hx_g9_4 : wr.cell? ⟨g9,4,none⟩ = some (.bool f2):=(blk_cell BK_g9.out 4).trans rfl
   have hf_g9_4:=blk_frozen BK_g9.out 4
   have hx_g9_5 : wr.cell? ⟨g9,5,none⟩ = some (.bool g2_):=(blk_cell BK_g9.out 5).trans rfl
   have hf_g9_5:=blk_frozen BK_g9.out 5
   have hx_g9_6 : wr.cell? ⟨g9,6,none⟩ = some (.bool h2):=(blk_cell BK_g9.out 6).trans rfl
   have hf_g9_6:=blk_frozen BK_g9.out 6
   go_wp2_with ((with_reducible refine gate_store (t:=5) (p:=76) rfl ?_);refine store_event (t:=5) (p:=76) (v:=?vo_16) (w1:=(wr.setCell ⟨go,i.toNat,none⟩ (.int .u8 99))) ?hg ?ho ?hn ?hr ?_;(case ho => rfl);(case hg => rfl);(case hn => rfl);(case hr => first | (go_simp;done) | (go_simp;rfl));intro ws hw;have hg : wr.grownBy ws (some go):=(by rw [hw];exact HP.2);have hp_ : Kd.R (Kd.int .u8) 5 ws w7.heap.size (fun k_ => p2 ≤ k_ ∧ k_ < q2) (.slice (some ⟨go,0,none⟩) d2.length p_2) (Lx.set i.toNat 99):=(by rw [hw];exact HP.1);clear HP;clear hx_g9_0 hf_g9_0 hx_g9_1 hf_g9_1 hx_g9_2 hf_g9_2 hx_g9_3 hf_g9_3 hx_g9_4 hf_g9_4 hx_g9_5 hf_g9_5 hx_g9_6 hf_g9_6;have n257_:=Aside0.mk (blk_grown BK_g7.out hg (Kd.R_ne O_d_2.out BK_g7.out (by decide)));have n258_:=Aside0.mk (blk_grown BK_g9.out hg (Kd.R_ne O_d_2.out BK_g9.out (by decide)));have n259_:=Aside0.mk (blk_grown BK_g11.out hg (Kd.R_ne O_d_2.out BK_g11.out (by decide)));have n260_:=Aside0.mk (blk_grown BK_g14.out hg (Kd.R_ne O_d_2.out BK_g14.out (by decide)));have n261_:=Aside0.mk (blk_grown BK_g15.out hg (Kd.R_ne O_d_2.out BK_g15.out (by decide)));have n262_:=Aside0.mk (Kd.V_grown O_y.out hg (fun k_ hk_ he_ => by injection he_ with he_;have h_:=HCH.out;have h2_:=HGO.out;omega));have n263_:=Aside0.mk (Kd.V_grown O_d_1.out hg (fun k_ hk_ he_ => by injection he_ with he_;have h_:=HCH.out;have h2_:=HGO.out;omega));have n264_:=Aside0.mk (Kd.V_grown O_t_1.out hg (fun k_ hk_ he_ => by injection he_ with he_;have h_:=HCH.out;have h2_:=HGO.out;omega));have n265_:=Aside0.mk (Kd.V_grown O_c_1.out hg (fun k_ hk_ he_ => by injection he_ with he_;have h_:=HCH.out;have h2_:=HGO.out;omega));have n266_:=Aside0.mk (Kd.V_grown O_d_3.out hg (fun k_ hk_ he_ => by injection he_ with he_;have h_:=HCH.out;have h2_:=HGO.out;omega));have n267_:=Aside0.mk (Kd.V_grown O_t_3.out hg (fun k_ hk_ he_ => by injection he_ with he_;have h_:=HCH.out;have h2_:=HGO.out;omega));have n268_:=Aside0.mk (Kd.V_grown O_c_3.out hg (fun k_ hk_ he_ => by injection he_ with he_;have h_:=HCH.out;have h2_:=HGO.out;omega));have n269_:=Aside0.mk (Kd.V_grown O_d_4.out hg (fun k_ hk_ he_ => by injection he_ with he_;have h_:=HCH.out;have h2_:=HGO.out;omega));have n270_:=Aside0.mk (Kd.V_grown O_t_4.out hg (fun k_ hk_ he_ => by injection he_ with he_;have h_:=HCH.out;have h2_:=HGO.out;omega));have n271_:=Aside0.mk (Kd.V_grown O_c_4.out hg (fun k_ hk_ he_ => by injection he_ with he_;have h_:=HCH.out;have h2_:=HGO.out;omega));have n272_:=Aside0.mk (Kd.R_grown O_d_5.out hg (fun k_ hk_ he_ => by injection he_ with he_;have h_:=HCH.out;have h2_:=HGO.out;omega));have n273_:=Aside0.mk (Kd.R_grown O_t_5.out hg (fun k_ hk_ he_ => by injection he_ with he_;have h_:=HCH.out;have h2_:=HGO.out;omega));have n274_:=Aside0.mk ((by rw [hw];exact below_set HB.out GB.out : Below w.heap.size w ws));have n275_:=Aside0.mk ((Nat.lt_of_lt_of_le (show _ < _ from HS.out) hg.size : g15 < ws.heap.size));clear BK_g7 BK_g9 BK_g11 BK_g14 BK_g15 O_y O_d_1 O_t_1 O_c_1 O_d_3 O_t_3 O_c_3 O_d_4 O_t_4 O_c_4 O_d_5 O_t_5 HB HS;have BK_g7:=n257_;have BK_g9:=n258_;have BK_g11:=n259_;have BK_g14:=n260_;have BK_g15:=n261_;have O_y:=n262_;have O_d_1:=n263_;have O_t_1:=n264_;have O_c_1:=n265_;have O_d_3:=n266_;have O_t_3:=n267_;have O_c_3:=n268_;have O_d_4:=n269_;have O_t_4:=n270_;have O_c_4:=n271_;have O_d_5:=n272_;have O_t_5:=n273_;have HB:=n274_;have HS:=n275_;clear n257_ n258_ n259_ n260_ n261_ n262_ n263_ n264_ n265_ n266_ n267_ n268_ n269_ n270_ n271_ n272_ n273_ n274_ n275_;replace O_d_2:=Aside0.mk hp_;clear hp_ hg hw)
   have hw : wrap64 (i + 1) = i + 1:=by have h2:=HI2.out;have h3:=HNd_2.out;unfold wrap64;omega
   go_roundg k1
   case measure => omega
   case rel => exact ⟨wrap64 (i + 1),_,rfl,⟨by have h2:=HI2.out;rw [hw,List.length_set];omega⟩,O_d_2,BK_g7,BK_g9,BK_g11,BK_g14,BK_g15,O_y,O_d_1,O_t_1,O_c_1,O_d_3,O_t_3,O_c_3,O_d_4,O_t_4,O_c_4,O_d_5,O_t_5,HS,HB⟩
 have cib2 : decide (i < (d2.length : Int)) = false:=decide_eq_false ci
 clear ci HI2 hl_
 have hx_g9_0 : wr.cell? ⟨g9,0,none⟩ = some (.int .u64 b2):=(blk_cell BK_g9.out 0).trans rfl
 have hf_g9_0:=blk_frozen BK_g9.out 0
 have hx_g9_1 : wr.cell? ⟨g9,1,none⟩ = some (.slice A2 d2.length p_2):=(blk_cell BK_g9.out 1).trans rfl
 have hf_g9_1:=blk_frozen BK_g9.out 1
 have hx_g9_2 : wr.cell? ⟨g9,2,none⟩ = some (.slice B2 t2.length q_2):=(blk_cell BK_g9.out 2).trans rfl
 have hf_g9_2:=blk_frozen BK_g9.out 2
 have hx_g9_3 : wr.cell? ⟨g9,3,none⟩ = some (.slice C2 c2.length r_2):=(blk_cell BK_g9.out 3).trans rfl
 have hf_g9_3:=blk_frozen BK_g9.out 3
 have hx_g9_4 : wr.cell? ⟨g9,4,none⟩ = some (.bool f2):=(blk_cell BK_g9.out 4).trans rfl
 have hf_g9_4:=blk_frozen BK_g9.out 4
 have hx_g9_5 : wr.cell? ⟨g9,5,none⟩ = some (.bool g2_):=(blk_cell BK_g9.out 5).trans rfl
 have hf_g9_5:=blk_frozen BK_g9.out 5
 have hx_g9_6 : wr.cell? ⟨g9,6,none⟩ = some (.bool h2):=(blk_cell BK_g9.out 6).trans rfl
 have hf_g9_6:=blk_frozen BK_g9.out 6
 go_wp2_with fail
 clear hx_g9_0 hf_g9_0 hx_g9_1 hf_g9_1 hx_g9_2 hf_g9_2 hx_g9_3 hf_g9_3 hx_g9_4 hf_g9_4 hx_g9_5 hf_g9_5 hx_g9_6 hf_g9_6
 clear O_d_2
 clear BK_g9
 go_loopg [17] d5.length (fun kq v17 w' => ∃ (i : Int) (L : List Int),v17 = .int .i64 i ∧ Aside0 (0 ≤ i ∧ i + kq = d5.length ∧ L.length = d5.length) ∧ Aside0 (Kd.R (Kd.int .u8) 5 w' w18.heap.size (fun k_ => p5 ≤ k_ ∧ k_ < q5) (.slice A5 d5.length p_5) (L)) ∧ Aside0 (w'.heap[g7]? = some (.cells #[.int .u64 b1,.slice A1 d1.length p_1,.slice B1 t1.length q_1,.slice C1 c1.length r_1,.bool f1,.bool g1_,.bool h1] 27 (0,0))) ∧ Aside0 (w'.heap[g11]? = some (.cells #[.int .u64 b3,.slice A3 d3.length p_3,.slice B3 t3.length q_3,.slice C3 c3.length r_3,.bool f3,.bool g3_,.bool h3] 27 (0,0))) ∧ Aside0 (w'.heap[g14]? = some (.cells #[.int .u64 b4,.slice A4 d4.length p_4,.slice B4 t4.length q_4,.slice C4 c4.length r_4,.bool f4,.bool g4_,.bool h4] 27 (0,0))) ∧ Aside0 (w'.heap[g15]? = some (.cells #[.int .u64 b5,.slice A5 d5.length p_5,.slice B5 t5.length q_5,.slice C5 c5.length r_5,.bool f5,.bool g5_,.bool h5] 27 (0,0))) ∧ Aside0 (Kd.V (Kd.int .u8) 5 w' w.heap.size (fun k_ => w.heap.size ≤ k_ ∧ k_ < q0) (.slice Ay l0.length cy) (l0)) ∧ Aside0 (Kd.V (Kd.int .u8) 5 w' w3.heap.size (fun k_ => p1 ≤ k_ ∧ k_ < q1) (.slice A1 d1.length p_1) (d1)) ∧ Aside0 (Kd.V k37 37 w' w3.heap.size (fun k_ => p1 ≤ k_ ∧ k_ < q1) (.slice B1 t1.length q_1) (t1)) ∧ Aside0 (Kd.V k37 37 w' w3.heap.size (fun k_ => p1 ≤ k_ ∧ k_ < q1) (.slice C1 c1.length r_1) (c1)) ∧ Aside0 (Kd.V (Kd.int .u8) 5 w' w10.heap.size (fun k_ => p3 ≤ k_ ∧ k_ < q3) (.slice A3 d3.length p_3) (d3)) ∧ Aside0 (Kd.V k37 37 w' w10.heap.size (fun k_ => p3 ≤ k_ ∧ k_ < q3) (.slice B3 t3.length q_3) (t3)) ∧ Aside0 (Kd.V k37 37 w' w10.heap.size (fun k_ => p3 ≤ k_ ∧ k_ < q3) (.slice C3 c3.length r_3) (c3)) ∧ Aside0 (Kd.V (Kd.int .u8) 5 w' w15.heap.size (fun k_ => p4 ≤ k_ ∧ k_ < q4) (.slice A4 d4.length p_4) (d4)) ∧ Aside0 (Kd.V k37 37 w' w15.heap.size (fun k_ => p4 ≤ k_ ∧ k_ < q4) (.slice B4 t4.length q_4) (t4)) ∧ Aside0 (Kd.V k37 37 w' w15.heap.size (fun k_ => p4 ≤ k_ ∧ k_ < q4) (.slice C4 c4.length r_4) (c4)) ∧ Aside0 (Kd.R k37 37 w' w18.heap.size (fun k_ => p5 ≤ k_ ∧ k_ < q5) (.slice B5 t5.length q_5) (t5)) ∧ Aside0 (g15 < w'.heap.size) ∧ Aside0 (Below w.heap.size w w'))
 case atStart => exact ⟨0,_,rfl,⟨by simp⟩,O_d_5,BK_g7,BK_g11,BK_g14,BK_g15,O_y,O_d_1,O_t_1,O_c_1,O_d_3,O_t_3,O_c_3,O_d_4,O_t_4,O_c_4,O_t_5,HS,HB⟩
 case round =>
 clear O_d_5 BK_g7 BK_g11 BK_g14 BK_g15 O_y O_d_1 O_t_1 O_c_1 O_d_3 O_t_3 O_c_3 O_d_4 O_t_4 O_c_4 O_t_5 HS HB
 obtain ⟨i,Lx,rfl,HI2,O_d_5,BK_g7,BK_g11,BK_g14,BK_g15,O_y,O_d_1,O_t_1,O_c_1,O_d_3,O_t_3,O_c_3,O_d_4,O_t_4,O_c_4,O_t_5,HS,HB⟩:=hrel
 have hl_:=HI2.out.2.2
 by_cases ci : i < (d5.length : Int)
 case pos =>
  have cib : decide (i < (d5.length : Int)) = true:=decide_eq_true ci
  cases gk with
  | zero => exact absurd HI2.out.2.1 (by omega)
  | succ k1 =>
   have p_ : 0 ≤ (i : Int):=HI2.out.1
   have q_ : (i : Int) < ((d5.length : Nat) : Int):=ci
   obtain ⟨go,co,eo,gb,gl,cl,HG⟩:=Kd.R_form O_d_5.out (by omega)
   injection eo with ea_ en_ ec_
   subst ea_ ec_
   clear en_ gl cl HG
   have hgo:=O_d_5.out.1 go (by simp [Value.ownBlock])
   obtain ⟨hx_,hf_⟩:=Kd.R_celln 0 O_d_5.out (i : Int) p_ q_
   have HP:=Kd.R_putg O_d_5.out (i : Int) 98
   have GB:=Aside0.mk (show w.heap.size ≤ go by have h_:=HCH.out;omega)
   have HGO:=Aside0.mk hgo
   clear hgo gb
   replace p_:=eq_true p_
   replace q_:=eq_true q_
   have hx_g15_0 : wr.cell? ⟨g15,0,none⟩ = some (.int .u64 b5):=(blk_cell BK_g15.out 0).trans rfl
   have hf_g15_0:=blk_frozen BK_g15.out 0
   have hx_g15_1 : wr.cell? ⟨g15,1,none⟩ = some (.slice (some ⟨go,0,none⟩) d5.length p_5):=(blk_cell BK_g15.out 1).trans rfl
   have hf_g15_1:=blk_frozen BK_g15.out 1
   have hx_g15_2 : wr.cell? ⟨g15,2,none⟩ = some (.slice B5 t5.length q_5):=(blk_cell BK_g15.out 2).trans rfl
   have hf_g15_2:=blk_frozen BK_g15.out 2
   have hx_g15_3 : wr.cell? ⟨g15,3,none⟩ = some (.slice C5 c5.length r_5):=(blk_cell BK_g15.out 3).trans rfl
   have hf_g15_3:=blk_frozen BK_g15.out 3
   have hx_g15_4 : wr.cell? ⟨g15,4,none⟩ = some (.bool f5):=(blk_cell BK_g15.out 4).trans rfl
   have hf_g15_4:=blk_frozen BK_g15.out 4
   have hx_g15_5 : wr.cell? ⟨g15,5,none⟩ = some (.bool g5_):=(blk_cell BK_g15.out 5).trans rfl
   have hf_g15_5:=blk_frozen BK_g15.out 5
   have hx_g15_6 : wr.cell? ⟨g15,6,none⟩ = some (.bool h5):=(blk_cell BK_g15.out 6).trans rfl
   have hf_g15_6:=blk_frozen BK_g15.out 6
   go_wp2_with ((with_reducible refine gate_store (t:=5) (p:=87) rfl ?_);refine store_event (t:=5) (p:=87) (v:=?vo_17) (w1:=(wr.setCell ⟨go,i.toNat,none⟩ (.int .u8 98))) ?hg ?ho ?hn ?hr ?_;(case ho => rfl);(case hg => rfl);(case hn => rfl);(case hr => first | (go_simp;done) | (go_simp;rfl));intro ws hw;have hg : wr.grownBy ws (some go):=(by rw [hw];exact HP.2);have hp_ : Kd.R (Kd.int .u8) 5 ws w18.heap.size (fun k_ => p5 ≤ k_ ∧ k_ < q5) (.slice (some ⟨go,0,none⟩) d5.length p_5) (Lx.set i.toNat 98):=(by rw [hw];exact HP.1);clear HP;clear hx_g15_0 hf_g15_0 hx_g15_1 hf_g15_1 hx_g15_2 hf_g15_2 hx_g15_3 hf_g15_3 hx_g15_4 hf_g15_4 hx_g15_5 hf_g15_5 hx_g15_6 hf_g15_6;have n257_:=Aside0.mk (blk_grown BK_g7.out hg (Kd.R_ne O_d_5.out BK_g7.out (by decide)));have n258_:=Aside0.mk (blk_grown BK_g11.out hg (Kd.R_ne O_d_5.out BK_g11.out (by decide)));have n259_:=Aside0.mk (blk_grown BK_g14.out hg (Kd.R_ne O_d_5.out BK_g14.out (by decide)));have n260_:=Aside0.mk (blk_grown BK_g15.out hg (Kd.R_ne O_d_5.out BK_g15.out (by decide)));have n261_:=Aside0.mk (Kd.V_grown O_y.out hg (fun k_ hk_ he_ => by injection he_ with he_;have h_:=HCH.out;have h2_:=HGO.out;omega));have n262_:=Aside0.mk (Kd.V_grown O_d_1.out hg (fun k_ hk_ he_ => by injection he_ with he_;have h_:=HCH.out;have h2_:=HGO.out;omega));have n263_:=Aside0.mk (Kd.V_grown O_t_1.out hg (fun k_ hk_ he_ => by injection he_ with he_;have h_:=HCH.out;have h2_:=HGO.out;omega));have n264_:=Aside0.mk (Kd.V_grown O_c_1.out hg (fun k_ hk_ he_ => by injection he_ with he_;have h_:=HCH.out;have h2_:=HGO.out;omega));have n265_:=Aside0.mk (Kd.V_grown O_d_3.out hg (fun k_ hk_ he_ => by injection he_ with he_;have h_:=HCH.out;have h2_:=HGO.out;omega));have n266_:=Aside0.mk (Kd.V_grown O_t_3.out hg (fun k_ hk_ he_ => by injection he_ with he_;have h_:=HCH.out;have h2_:=HGO.out;omega));have n267_:=Aside0.mk (Kd.V_grown O_c_3.out hg (fun k_ hk_ he_ => by injection he_ with he_;have h_:=HCH.out;have h2_:=HGO.out;omega));have n268_:=Aside0.mk (Kd.V_grown O_d_4.out hg (fun k_ hk_ he_ => by injection he_ with he_;have h_:=HCH.out;have h2_:=HGO.out;omega));have n269_:=Aside0.mk (Kd.V_grown O_t_4.out hg (fun k_ hk_ he_ => by injection he_ with he_;have h_:=HCH.out;have h2_:=HGO.out;omega));have n270_:=Aside0.mk (Kd.V_grown O_c_4.out hg (fun k_ hk_ he_ => by injection he_ with he_;have h_:=HCH.out;have h2_:=HGO.out;omega));have n271_:=Aside0.mk (Kd.R_over' (v:=(.slice (some ⟨go,0,none⟩) d5.length p_5)) O_t_5.out (Kd.R_typed O_d_5.out) (by decide) hg);have n272_:=Aside0.mk ((by rw [hw];exact below_set HB.out GB.out : Below w.heap.size w ws));have n273_:=Aside0.mk ((Nat.lt_of_lt_of_le (show _ < _ from HS.out) hg.size : g15 < ws.heap.size));clear BK_g7 BK_g11 BK_g14 BK_g15 O_y O_d_1 O_t_1 O_c_1 O_d_3 O_t_3 O_c_3 O_d_4 O_t_4 O_c_4 O_t_5 HB HS;have BK_g7:=n257_;have BK_g11:=n258_;have BK_g14:=n259_;have BK_g15:=n260_;have O_y:=n261_;have O_d_1:=n262_;have O_t_1:=n263_;have O_c_1:=n264_;have O_d_3:=n265_;have O_t_3:=n266_;have O_c_3:=n267_;have O_d_4:=n268_;have O_t_4:=n269_;have O_c_4:=n270_;have O_t_5:=n271_;have HB:=n272_;have HS:=n273_;clear n257_ n258_ n259_ n260_ n261_ n262_ n263_ n264_ n265_ n266_ n267_ n268_ n269_ n270_ n271_ n272_ n273_;replace O_d_5:=Aside0.mk hp_;clear hp_ hg hw)
   have hw : wrap64 (i + 1) = i + 1:=by have h2:=HI2.out;have h3:=HNd_5.out;unfold wrap64;omega
   go_roundg k1
   case measure => omega
   case rel => exact ⟨wrap64 (i + 1),_,rfl,⟨by have h2:=HI2.out;rw [hw,List.length_set];omega⟩,O_d_5,BK_g7,BK_g11,BK_g14,BK_g15,O_y,O_d_1,O_t_1,O_c_1,O_d_3,O_t_3,O_c_3,O_d_4,O_t_4,O_c_4,O_t_5,HS,HB⟩
 have cib2 : decide (i < (d5.length : Int)) = false:=decide_eq_false ci
 clear ci HI2 hl_
 have hx_g15_0 : wr.cell? ⟨g15,0,none⟩ = some (.int .u64 b5):=(blk_cell BK_g15.out 0).trans rfl
 have hf_g15_0:=blk_frozen BK_g15.out 0
 have hx_g15_1 : wr.cell? ⟨g15,1,none⟩ = some (.slice A5 d5.length p_5):=(blk_cell BK_g15.out 1).trans rfl
 have hf_g15_1:=blk_frozen BK_g15.out 1
 have hx_g15_2 : wr.cell? ⟨g15,2,none⟩ = some (.slice B5 t5.length q_5):=(blk_cell BK_g15.out 2).trans rfl
 have hf_g15_2:=blk_frozen BK_g15.out 2
 have hx_g15_3 : wr.cell? ⟨g15,3,none⟩ = some (.slice C5 c5.length r_5):=(blk_cell BK_g15.out 3).trans rfl
 have hf_g15_3:=blk_frozen BK_g15.out 3
 have hx_g15_4 : wr.cell? ⟨g15,4,none⟩ = some (.bool f5):=(blk_cell BK_g15.out 4).trans rfl
 have hf_g15_4:=blk_frozen BK_g15.out 4
 have hx_g15_5 : wr.cell? ⟨g15,5,none⟩ = some (.bool g5_):=(blk_cell BK_g15.out 5).trans rfl
 have hf_g15_5:=blk_frozen BK_g15.out 5
 have hx_g15_6 : wr.cell? ⟨g15,6,none⟩ = some (.bool h5):=(blk_cell BK_g15.out 6).trans rfl
 have hf_g15_6:=blk_frozen BK_g15.out 6
 go_wp2_with fail
 clear hx_g15_0 hf_g15_0 hx_g15_1 hf_g15_1 hx_g15_2 hf_g15_2 hx_g15_3 hf_g15_3 hx_g15_4 hf_g15_4 hx_g15_5 hf_g15_5 hx_g15_6 hf_g15_6
 clear O_d_5
 go_loopg [18] t5.length (fun kq v18 w' => ∃ (i : Int) (L : List S37),v18 = .int .i64 i ∧ Aside0 (0 ≤ i ∧ i + kq = t5.length ∧ L.length = t5.length) ∧ Aside0 (Kd.R k37 37 w' w18.heap.size (fun k_ => p5 ≤ k_ ∧ k_ < q5) (.slice B5 t5.length q_5) (L)) ∧ Aside0 (w'.heap[g7]? = some (.cells #[.int .u64 b1,.slice A1 d1.length p_1,.slice B1 t1.length q_1,.slice C1 c1.length r_1,.bool f1,.bool g1_,.bool h1] 27 (0,0))) ∧ Aside0 (w'.heap[g11]? = some (.cells #[.int .u64 b3,.slice A3 d3.length p_3,.slice B3 t3.length q_3,.slice C3 c3.length r_3,.bool f3,.bool g3_,.bool h3] 27 (0,0))) ∧ Aside0 (w'.heap[g14]? = some (.cells #[.int .u64 b4,.slice A4 d4.length p_4,.slice B4 t4.length q_4,.slice C4 c4.length r_4,.bool f4,.bool g4_,.bool h4] 27 (0,0))) ∧ Aside0 (w'.heap[g15]? = some (.cells #[.int .u64 b5,.slice A5 d5.length p_5,.slice B5 t5.length q_5,.slice C5 c5.length r_5,.bool f5,.bool g5_,.bool h5] 27 (0,0))) ∧ Aside0 (Kd.V (Kd.int .u8) 5 w' w.heap.size (fun k_ => w.heap.size ≤ k_ ∧ k_ < q0) (.slice Ay l0.length cy) (l0)) ∧ Aside0 (Kd.V (Kd.int .u8) 5 w' w3.heap.size (fun k_ => p1 ≤ k_ ∧ k_ < q1) (.slice A1 d1.length p_1) (d1)) ∧ Aside0 (Kd.V k37 37 w' w3.heap.size (fun k_ => p1 ≤ k_ ∧ k_ < q1) (.slice B1 t1.length q_1) (t1)) ∧ Aside0 (Kd.V k37 37 w' w3.heap.size (fun k_ => p1 ≤ k_ ∧ k_ < q1) (.slice C1 c1.length r_1) (c1)) ∧ Aside0 (Kd.V (Kd.int .u8) 5 w' w10.heap.size (fun k_ => p3 ≤ k_ ∧ k_ < q3) (.slice A3 d3.length p_3) (d3)) ∧ Aside0 (Kd.V k37 37 w' w10.heap.size (fun k_ => p3 ≤ k_ ∧ k_ < q3) (.slice B3 t3.length q_3) (t3)) ∧ Aside0 (Kd.V k37 37 w' w10.heap.size (fun k_ => p3 ≤ k_ ∧ k_ < q3) (.slice C3 c3.length r_3) (c3)) ∧ Aside0 (Kd.V (Kd.int .u8) 5 w' w15.heap.size (fun k_ => p4 ≤ k_ ∧ k_ < q4) (.slice A4 d4.length p_4) (d4)) ∧ Aside0 (Kd.V k37 37 w' w15.heap.size (fun k_ => p4 ≤ k_ ∧ k_ < q4) (.slice B4 t4.length q_4) (t4)) ∧ Aside0 (Kd.V k37 37 w' w15.heap.size (fun k_ => p4 ≤ k_ ∧ k_ < q4) (.slice C4 c4.length r_4) (c4)) ∧ Aside0 (g15 < w'.heap.size) ∧ Aside0 (Below w.heap.size w w'))
 case atStart => exact ⟨0,_,rfl,⟨by simp⟩,O_t_5,BK_g7,BK_g11,BK_g14,BK_g15,O_y,O_d_1,O_t_1,O_c_1,O_d_3,O_t_3,O_c_3,O_d_4,O_t_4,O_c_4,HS,HB⟩
 case round =>
 clear O_t_5 BK_g7 BK_g11 BK_g14 BK_g15 O_y O_d_1 O_t_1 O_c_1 O_d_3 O_t_3 O_c_3 O_d_4 O_t_4 O_c_4 HS HB
 obtain ⟨i,Lx,rfl,HI2,O_t_5,BK_g7,BK_g11,BK_g14,BK_g15,O_y,O_d_1,O_t_1,O_c_1,O_d_3,O_t_3,O_c_3,O_d_4,O_t_4,O_c_4,HS,HB⟩:=hrel
 have hl_:=HI2.out.2.2
 by_cases ci : i < (t5.length : Int)
 case pos =>
  have cib : decide (i < (t5.length : Int)) = true:=decide_eq_true ci
  cases gk with
  | zero => exact absurd HI2.out.2.1 (by omega)
  | succ k1 =>
   have p_ : 0 ≤ (i : Int):=HI2.out.1
   have q_ : (i : Int) < ((t5.length : Nat) : Int):=ci
   obtain ⟨go,co,eo,gb,gl,cl,HG⟩:=Kd.R_form O_t_5.out (by omega)
   injection eo with ea_ en_ ec_
   subst ea_ ec_
   clear en_ gl cl HG
   have hgo:=O_t_5.out.1 go (by simp [Value.ownBlock])
   obtain ⟨ce,hcl,hM,hcc,hfr⟩:=Kd.R_elem O_t_5.out z37 (i : Int) p_ q_
   obtain rfl:=k37_openM hM
   have HP:=Kd.R_seg O_t_5.out (i : Int) p_ q_ (seg:=[.int .u64 98]) (j:=0) hcl hcc (show 1 ≤ 2 from by decide) (x':=(⟨98,(rd_T37 Lx i).f1⟩ : S37)) (k37_mkM _ _ _ (⟨98,(rd_T37 Lx i).f1⟩ : S37)) (fun _ hk => hk)
   have hx_:=hcc 0 _ rfl
   have hf_:=hfr 0
   (try simp only [show (k37).sz = 2 from rfl,Nat.mul_one,Nat.add_zero] at hx_ hf_)
   clear hcl hcc hfr hM
   have GB:=Aside0.mk (show w.heap.size ≤ go by have h_:=HCH.out;omega)
   have HGO:=Aside0.mk hgo
   clear hgo gb
   replace p_:=eq_true p_
   replace q_:=eq_true q_
   have hx_g15_0 : wr.cell? ⟨g15,0,none⟩ = some (.int .u64 b5):=(blk_cell BK_g15.out 0).trans rfl
   have hf_g15_0:=blk_frozen BK_g15.out 0
   have hx_g15_1 : wr.cell? ⟨g15,1,none⟩ = some (.slice A5 d5.length p_5):=(blk_cell BK_g15.out 1).trans rfl
   have hf_g15_1:=blk_frozen BK_g15.out 1
   have hx_g15_2 : wr.cell? ⟨g15,2,none⟩ = some (.slice (some ⟨go,0,none⟩) t5.length q_5):=(blk_cell BK_g15.out 2).trans rfl
   have hf_g15_2:=blk_frozen BK_g15.out 2
   have hx_g15_3 : wr.cell? ⟨g15,3,none⟩ = some (.slice C5 c5.length r_5):=(blk_cell BK_g15.out 3).trans rfl
   have hf_g15_3:=blk_frozen BK_g15.out 3
   have hx_g15_4 : wr.cell? ⟨g15,4,none⟩ = some (.bool f5):=(blk_cell BK_g15.out 4).trans rfl
   have hf_g15_4:=blk_frozen BK_g15.out 4
   have hx_g15_5 : wr.cell? ⟨g15,5,none⟩ = some (.bool g5_):=(blk_cell BK_g15.out 5).trans rfl
   have hf_g15_5:=blk_frozen BK_g15.out 5
   have hx_g15_6 : wr.cell? ⟨g15,6,none⟩ = some (.bool h5):=(blk_cell BK_g15.out 6).trans rfl
   have hf_g15_6:=blk_frozen BK_g15.out 6
   go_wp2_with ((with_reducible refine gate_store (t:=24) (p:=99) rfl ?_);refine store_event (t:=24) (p:=99) (v:=?vo_18) (w1:=(wr.setCell ⟨go,i.toNat * 2,none⟩ (.int .u64 98))) ?hg ?ho ?hn ?hr ?_;(case ho => rfl);(case hg => rfl);(case hn => rfl);(case hr => first | (go_simp;done) | (go_simp;rfl));intro ws hw;have hg : wr.grownBy ws (some go):=(by rw [hw];exact HP.2);have hp_ : Kd.R k37 37 ws w18.heap.size (fun k_ => p5 ≤ k_ ∧ k_ < q5) (.slice (some ⟨go,0,none⟩) t5.length q_5) (Lx.set i.toNat ⟨98,(rd_T37 Lx i).f1⟩):=(by rw [hw];exact HP.1);clear HP;clear hx_g15_0 hf_g15_0 hx_g15_1 hf_g15_1 hx_g15_2 hf_g15_2 hx_g15_3 hf_g15_3 hx_g15_4 hf_g15_4 hx_g15_5 hf_g15_5 hx_g15_6 hf_g15_6;have n257_:=Aside0.mk (blk_grown BK_g7.out hg (Kd.R_ne O_t_5.out BK_g7.out (by decide)));have n258_:=Aside0.mk (blk_grown BK_g11.out hg (Kd.R_ne O_t_5.out BK_g11.out (by decide)));have n259_:=Aside0.mk (blk_grown BK_g14.out hg (Kd.R_ne O_t_5.out BK_g14.out (by decide)));have n260_:=Aside0.mk (blk_grown BK_g15.out hg (Kd.R_ne O_t_5.out BK_g15.out (by decide)));have n261_:=Aside0.mk (Kd.V_grown O_y.out hg (fun k_ hk_ he_ => by injection he_ with he_;have h_:=HCH.out;have h2_:=HGO.out;omega));have n262_:=Aside0.mk (Kd.V_grown O_d_1.out hg (fun k_ hk_ he_ => by injection he_ with he_;have h_:=HCH.out;have h2_:=HGO.out;omega));have n263_:=Aside0.mk (Kd.V_grown O_t_1.out hg (fun k_ hk_ he_ => by injection he_ with he_;have h_:=HCH.out;have h2_:=HGO.out;omega));have n264_:=Aside0.mk (Kd.V_grown O_c_1.out hg (fun k_ hk_ he_ => by injection he_ with he_;have h_:=HCH.out;have h2_:=HGO.out;omega));have n265_:=Aside0.mk (Kd.V_grown O_d_3.out hg (fun k_ hk_ he_ => by injection he_ with he_;have h_:=HCH.out;have h2_:=HGO.out;omega));have n266_:=Aside0.mk (Kd.V_grown O_t_3.out hg (fun k_ hk_ he_ => by injection he_ with he_;have h_:=HCH.out;have h2_:=HGO.out;omega));have n267_:=Aside0.mk (Kd.V_grown O_c_3.out hg (fun k_ hk_ he_ => by injection he_ with he_;have h_:=HCH.out;have h2_:=HGO.out;omega));have n268_:=Aside0.mk (Kd.V_grown O_d_4.out hg (fun k_ hk_ he_ => by injection he_ with he_;have h_:=HCH.out;have h2_:=HGO.out;omega));have n269_:=Aside0.mk (Kd.V_grown O_t_4.out hg (fun k_ hk_ he_ => by injection he_ with he_;have h_:=HCH.out;have h2_:=HGO.out;omega));have n270_:=Aside0.mk (Kd.V_grown O_c_4.out hg (fun k_ hk_ he_ => by injection he_ with he_;have h_:=HCH.out;have h2_:=HGO.out;omega));have n271_:=Aside0.mk ((by rw [hw];exact below_set HB.out GB.out : Below w.heap.size w ws));have n272_:=Aside0.mk ((Nat.lt_of_lt_of_le (show _ < _ from HS.out) hg.size : g15 < ws.heap.size));clear BK_g7 BK_g11 BK_g14 BK_g15 O_y O_d_1 O_t_1 O_c_1 O_d_3 O_t_3 O_c_3 O_d_4 O_t_4 O_c_4 HB HS;have BK_g7:=n257_;have BK_g11:=n258_;have BK_g14:=n259_;have BK_g15:=n260_;have O_y:=n261_;have O_d_1:=n262_;have O_t_1:=n263_;have O_c_1:=n264_;have O_d_3:=n265_;have O_t_3:=n266_;have O_c_3:=n267_;have O_d_4:=n268_;have O_t_4:=n269_;have O_c_4:=n270_;have HB:=n271_;have HS:=n272_;clear n257_ n258_ n259_ n260_ n261_ n262_ n263_ n264_ n265_ n266_ n267_ n268_ n269_ n270_ n271_ n272_;replace O_t_5:=Aside0.mk hp_;clear hp_ hg hw)
   have hw : wrap64 (i + 1) = i + 1:=by have h2:=HI2.out;have h3:=HNt_5.out;unfold wrap64;omega
   go_roundg k1
   case measure => omega
   case rel => exact ⟨wrap64 (i + 1),_,rfl,⟨by have h2:=HI2.out;rw [hw,List.length_set];omega⟩,O_t_5,BK_g7,BK_g11,BK_g14,BK_g15,O_y,O_d_1,O_t_1,O_c_1,O_d_3,O_t_3,O_c_3,O_d_4,O_t_4,O_c_4,HS,HB⟩
 have cib2 : decide (i < (t5.length : Int)) = false:=decide_eq_false ci
 clear ci HI2 hl_
 clear O_t_5
 have hx_g15_0 : wr.cell? ⟨g15,0,none⟩ = some (.int .u64 b5):=(blk_cell BK_g15.out 0).trans rfl
 have hf_g15_0:=blk_frozen BK_g15.out 0
 have hx_g15_1 : wr.cell? ⟨g15,1,none⟩ = some (.slice A5 d5.length p_5):=(blk_cell BK_g15.out 1).trans rfl
 have hf_g15_1:=blk_frozen BK_g15.out 1
 have hx_g15_2 : wr.cell? ⟨g15,2,none⟩ = some (.slice B5 t5.length q_5):=(blk_cell BK_g15.out 2).trans rfl
 have hf_g15_2:=blk_frozen BK_g15.out 2
 have hx_g15_3 : wr.cell? ⟨g15,3,none⟩ = some (.slice C5 c5.length r_5):=(blk_cell BK_g15.out 3).trans rfl
 have hf_g15_3:=blk_frozen BK_g15.out 3
 have hx_g15_4 : wr.cell? ⟨g15,4,none⟩ = some (.bool f5):=(blk_cell BK_g15.out 4).trans rfl
 have hf_g15_4:=blk_frozen BK_g15.out 4
 have hx_g15_5 : wr.cell? ⟨g15,5,none⟩ = some (.bool g5_):=(blk_cell BK_g15.out 5).trans rfl
 have hf_g15_5:=blk_frozen BK_g15.out 5
 have hx_g15_6 : wr.cell? ⟨g15,6,none⟩ = some (.bool h5):=(blk_cell BK_g15.out 6).trans rfl
 have hf_g15_6:=blk_frozen BK_g15.out 6
 go_upto_region 23 with (first
  | ((with_reducible refine gate_callee (f:=9) rfl ?_);refine goesL_ (some 103) rfl rfl Try.func9 (by kernel_rfl) rfl #[.agg #[.int .u64 0,.slice none 0 0,.slice none 0 0,.slice none 0 0,.bool false,.bool false,.bool false],.slice A0 l0.length c0] rfl (by (try simp only [List.map_toArray,List.map_cons,List.map_nil]);first | done | rfl) ?_;refine (supply_Write.calls k 0 none 0 [] none 0 [] none 0 [] false false false A0 c0 l0 _ _ _ _ _ _ _ _ _ (Kd.C_nil _ _) (Nat.le_refl _) (Kd.C_nil _ _) (Nat.le_refl _) (Kd.C_nil _ _) (Nat.le_refl _) (Kd.C_below HR0.out HB.out) HC0.out P1.out).mono ?_;rintro e_ w31 ⟨u1,u2,u3,rfl,ho1,ho2,ho3,hb⟩;refine ⟨_,rfl,?_⟩;obtain ⟨p6,hp6⟩ : ∃ n_ : Nat,n_ = wr.heap.size:=⟨_,rfl⟩;obtain ⟨q6,hq6⟩ : ∃ n_ : Nat,n_ = w31.heap.size:=⟨_,rfl⟩;replace HCH:=Aside0.mk (And.intro HCH.out (show g15 < p6 ∧ p6 ≤ q6 by have h_:=HS.out;have h2_:=hb.size;omega));have O_d_6:=Aside0.mk (Kd.R_V (base':=wr.heap.size) (Kd.R_mono (Kd.R_bound ho1) (ok':=fun k_ => p6 ≤ k_ ∧ k_ < q6) (fun k_ hk_ => ⟨by rw [hp6];exact hk_.2.1,by rw [hq6];exact hk_.2.2.1⟩)));have O_t_6:=Aside0.mk (Kd.R_V (base':=wr.heap.size) (Kd.R_mono (Kd.R_bound ho2) (ok':=fun k_ => p6 ≤ k_ ∧ k_ < q6) (fun k_ hk_ => ⟨by rw [hp6];exact hk_.2.1,by rw [hq6];exact hk_.2.2.1⟩)));have O_c_6:=Aside0.mk (Kd.R_V (base':=wr.heap.size) (Kd.R_mono (Kd.R_bound ho3) (ok':=fun k_ => p6 ≤ k_ ∧ k_ < q6) (fun k_ hk_ => ⟨by rw [hp6];exact hk_.2.1,by rw [hq6];exact hk_.2.2.1⟩)));clear ho1 ho2 ho3;clear hx_g15_0 hf_g15_0 hx_g15_1 hf_g15_1 hx_g15_2 hf_g15_2 hx_g15_3 hf_g15_3 hx_g15_4 hf_g15_4 hx_g15_5 hf_g15_5 hx_g15_6 hf_g15_6;have n257_:=Aside0.mk (below_step HB.out hb);have n258_:=Aside0.mk ((Nat.lt_of_lt_of_le (show _ < _ from HS.out) hb.size : g15 < w31.heap.size));have n259_:=Aside0.mk (blk_below BK_g7.out hb);have n260_:=Aside0.mk (blk_below BK_g11.out hb);have n261_:=Aside0.mk (blk_below BK_g14.out hb);have n262_:=Aside0.mk (blk_below BK_g15.out hb);have n263_:=Aside0.mk (Kd.V_below O_y.out hb);have n264_:=Aside0.mk (Kd.V_below O_d_1.out hb);have n265_:=Aside0.mk (Kd.V_below O_t_1.out hb);have n266_:=Aside0.mk (Kd.V_below O_c_1.out hb);have n267_:=Aside0.mk (Kd.V_below O_d_3.out hb);have n268_:=Aside0.mk (Kd.V_below O_t_3.out hb);have n269_:=Aside0.mk (Kd.V_below O_c_3.out hb);have n270_:=Aside0.mk (Kd.V_below O_d_4.out hb);have n271_:=Aside0.mk (Kd.V_below O_t_4.out hb);have n272_:=Aside0.mk (Kd.V_below O_c_4.out hb);clear HB HS BK_g7 BK_g11 BK_g14 BK_g15 O_y O_d_1 O_t_1 O_c_1 O_d_3 O_t_3 O_c_3 O_d_4 O_t_4 O_c_4;have HB:=n257_;have HS:=n258_;have BK_g7:=n259_;have BK_g11:=n260_;have BK_g14:=n261_;have BK_g15:=n262_;have O_y:=n263_;have O_d_1:=n264_;have O_t_1:=n265_;have O_c_1:=n266_;have O_d_3:=n267_;have O_t_3:=n268_;have O_c_3:=n269_;have O_d_4:=n270_;have O_t_4:=n271_;have O_c_4:=n272_;clear n257_ n258_ n259_ n260_ n261_ n262_ n263_ n264_ n265_ n266_ n267_ n268_ n269_ n270_ n271_ n272_;replace HS:=Aside0.mk (show q6 ≤ w31.heap.size by rw [hq6];exact Nat.le_refl _);clear hb hp6 hq6;obtain ⟨A6,p_6,eo⟩:=Kd.V_slice O_d_6.out;subst eo;obtain ⟨B6,q_6,eo⟩:=Kd.V_slice O_t_6.out;subst eo;obtain ⟨C6,r_6,eo⟩:=Kd.V_slice O_c_6.out;subst eo)
  | ((with_reducible refine gate_dst (N:=19) rfl ?_);refine box_event ?hg (N:=19) ?hd (cs:=#[.int .u64 0,.slice none 0 0,.slice none 0 0,.slice none 0 0,.bool false,.bool false,.bool false]) (t:=27) ?hr ?_;(case hd => rfl);(case hg => rfl);(case hr => first | (go_simp;done) | (go_simp;rfl));intro g19 hg w32 hbox hb;have GE_g19:=Aside0.mk (show w.heap.size ≤ g19 by rw [hg];exact HB.out.size);have NB_g7_g19 : g7 ≠ g19:=(by rw [hg];exact Nat.ne_of_lt (blk_lt BK_g7.out));have NB_g19_g7:=NB_g7_g19.symm;have NB_g11_g19 : g11 ≠ g19:=(by rw [hg];exact Nat.ne_of_lt (blk_lt BK_g11.out));have NB_g19_g11:=NB_g11_g19.symm;have NB_g14_g19 : g14 ≠ g19:=(by rw [hg];exact Nat.ne_of_lt (blk_lt BK_g14.out));have NB_g19_g14:=NB_g14_g19.symm;have NB_g15_g19 : g15 ≠ g19:=(by rw [hg];exact Nat.ne_of_lt (blk_lt BK_g15.out));have NB_g19_g15:=NB_g15_g19.symm;replace HCH:=Aside0.mk (And.intro HCH.out (show q6 ≤ g19 by rw [hg];exact HS.out));have n273_:=Aside0.mk (below_step HB.out hb);have n274_:=Aside0.mk ((Nat.le_trans (show _ ≤ _ from HS.out) hb.size : q6 ≤ w32.heap.size));have n275_:=Aside0.mk (blk_below BK_g7.out hb);have n276_:=Aside0.mk (blk_below BK_g11.out hb);have n277_:=Aside0.mk (blk_below BK_g14.out hb);have n278_:=Aside0.mk (blk_below BK_g15.out hb);have n279_:=Aside0.mk (Kd.V_below O_y.out hb);have n280_:=Aside0.mk (Kd.V_below O_d_1.out hb);have n281_:=Aside0.mk (Kd.V_below O_t_1.out hb);have n282_:=Aside0.mk (Kd.V_below O_c_1.out hb);have n283_:=Aside0.mk (Kd.V_below O_d_3.out hb);have n284_:=Aside0.mk (Kd.V_below O_t_3.out hb);have n285_:=Aside0.mk (Kd.V_below O_c_3.out hb);have n286_:=Aside0.mk (Kd.V_below O_d_4.out hb);have n287_:=Aside0.mk (Kd.V_below O_t_4.out hb);have n288_:=Aside0.mk (Kd.V_below O_c_4.out hb);have n289_:=Aside0.mk (Kd.V_below O_d_6.out hb);have n290_:=Aside0.mk (Kd.V_below O_t_6.out hb);have n291_:=Aside0.mk (Kd.V_below O_c_6.out hb);clear HB HS BK_g7 BK_g11 BK_g14 BK_g15 O_y O_d_1 O_t_1 O_c_1 O_d_3 O_t_3 O_c_3 O_d_4 O_t_4 O_c_4 O_d_6 O_t_6 O_c_6;have HB:=n273_;have HS:=n274_;have BK_g7:=n275_;have BK_g11:=n276_;have BK_g14:=n277_;have BK_g15:=n278_;have O_y:=n279_;have O_d_1:=n280_;have O_t_1:=n281_;have O_c_1:=n282_;have O_d_3:=n283_;have O_t_3:=n284_;have O_c_3:=n285_;have O_d_4:=n286_;have O_t_4:=n287_;have O_c_4:=n288_;have O_d_6:=n289_;have O_t_6:=n290_;have O_c_6:=n291_;clear n273_ n274_ n275_ n276_ n277_ n278_ n279_ n280_ n281_ n282_ n283_ n284_ n285_ n286_ n287_ n288_ n289_ n290_ n291_;replace HS:=Aside0.mk (show g19 < w32.heap.size from blk_lt hbox);have BK_g19:=Aside0.mk hbox;clear hbox hb hg;have hx_g19_0 : w32.cell? ⟨g19,0,none⟩ = some (.int .u64 0):=(blk_cell BK_g19.out 0).trans rfl;have hf_g19_0:=blk_frozen BK_g19.out 0;have hx_g19_1 : w32.cell? ⟨g19,1,none⟩ = some (.slice none 0 0):=(blk_cell BK_g19.out 1).trans rfl;have hf_g19_1:=blk_frozen BK_g19.out 1;have hx_g19_2 : w32.cell? ⟨g19,2,none⟩ = some (.slice none 0 0):=(blk_cell BK_g19.out 2).trans rfl;have hf_g19_2:=blk_frozen BK_g19.out 2;have hx_g19_3 : w32.cell? ⟨g19,3,none⟩ = some (.slice none 0 0):=(blk_cell BK_g19.out 3).trans rfl;have hf_g19_3:=blk_frozen BK_g19.out 3;have hx_g19_4 : w32.cell? ⟨g19,4,none⟩ = some (.bool false):=(blk_cell BK_g19.out 4).trans rfl;have hf_g19_4:=blk_frozen BK_g19.out 4;have hx_g19_5 : w32.cell? ⟨g19,5,none⟩ = some (.bool false):=(blk_cell BK_g19.out 5).trans rfl;have hf_g19_5:=blk_frozen BK_g19.out 5;have hx_g19_6 : w32.cell? ⟨g19,6,none⟩ = some (.bool false):=(blk_cell BK_g19.out 6).trans rfl;have hf_g19_6:=blk_frozen BK_g19.out 6;have hx_g7_0 : w32.cell? ⟨g7,0,none⟩ = some (.int .u64 b1):=(blk_cell BK_g7.out 0).trans rfl;have hf_g7_0:=blk_frozen BK_g7.out 0;have hx_g7_1 : w32.cell? ⟨g7,1,none⟩ = some (.slice A1 d1.length p_1):=(blk_cell BK_g7.out 1).trans rfl;have hf_g7_1:=blk_frozen BK_g7.out 1;have hx_g7_2 : w32.cell? ⟨g7,2,none⟩ = some (.slice B1 t1.length q_1):=(blk_cell BK_g7.out 2).trans rfl;have hf_g7_2:=blk_frozen BK_g7.out 2;have hx_g7_3 : w32.cell? ⟨g7,3,none⟩ = some (.slice C1 c1.length r_1):=(blk_cell BK_g7.out 3).trans rfl;have hf_g7_3:=blk_frozen BK_g7.out 3;have hx_g7_4 : w32.cell? ⟨g7,4,none⟩ = some (.bool f1):=(blk_cell BK_g7.out 4).trans rfl;have hf_g7_4:=blk_frozen BK_g7.out 4;have hx_g7_5 : w32.cell? ⟨g7,5,none⟩ = some (.bool g1_):=(blk_cell BK_g7.out 5).trans rfl;have hf_g7_5:=blk_frozen BK_g7.out 5;have hx_g7_6 : w32.cell? ⟨g7,6,none⟩ = some (.bool h1):=(blk_cell BK_g7.out 6).trans rfl;have hf_g7_6:=blk_frozen BK_g7.out 6))
 clear hx_g19_0 hf_g19_0 hx_g19_1 hf_g19_1 hx_g19_2 hf_g19_2 hx_g19_3 hf_g19_3 hx_g19_4 hf_g19_4 hx_g19_5 hf_g19_5 hx_g19_6 hf_g19_6 hx_g7_0 hf_g7_0 hx_g7_1 hf_g7_1 hx_g7_2 hf_g7_2 hx_g7_3 hf_g7_3 hx_g7_4 hf_g7_4 hx_g7_5 hf_g7_5 hx_g7_6 hf_g7_6
 obtain ⟨w33,hw292_⟩ : ∃ w_ : World,set7 w32 g19 (.int .u64 b1) (.slice A6 d1.length p_6) (.slice B6 t1.length q_6) (.slice C6 c1.length r_6) (.bool f1) (.bool g1_) (.bool h1) = w_:=⟨_,rfl⟩
 have n293_:=Aside0.mk (blk7 hw292_ BK_g19.out)
 have n294_:=Aside0.mk (far7 hw292_ NB_g7_g19 BK_g7.out)
 have n295_:=Aside0.mk (far7 hw292_ NB_g11_g19 BK_g11.out)
 have n296_:=Aside0.mk (far7 hw292_ NB_g14_g19 BK_g14.out)
 have n297_:=Aside0.mk (far7 hw292_ NB_g15_g19 BK_g15.out)
 have n298_:=Aside0.mk (V7o hw292_ (fun k_ hk_ => by have h_:=HCH.out;omega) O_y.out)
 have n299_:=Aside0.mk (V7o hw292_ (fun k_ hk_ => by have h_:=HCH.out;omega) O_d_1.out)
 have n300_:=Aside0.mk (V7o hw292_ (fun k_ hk_ => by have h_:=HCH.out;omega) O_t_1.out)
 have n301_:=Aside0.mk (V7o hw292_ (fun k_ hk_ => by have h_:=HCH.out;omega) O_c_1.out)
 have n302_:=Aside0.mk (V7o hw292_ (fun k_ hk_ => by have h_:=HCH.out;omega) O_d_3.out)
 have n303_:=Aside0.mk (V7o hw292_ (fun k_ hk_ => by have h_:=HCH.out;omega) O_t_3.out)
 have n304_:=Aside0.mk (V7o hw292_ (fun k_ hk_ => by have h_:=HCH.out;omega) O_c_3.out)
 have n305_:=Aside0.mk (V7o hw292_ (fun k_ hk_ => by have h_:=HCH.out;omega) O_d_4.out)
 have n306_:=Aside0.mk (V7o hw292_ (fun k_ hk_ => by have h_:=HCH.out;omega) O_t_4.out)
 have n307_:=Aside0.mk (V7o hw292_ (fun k_ hk_ => by have h_:=HCH.out;omega) O_c_4.out)
 have n308_:=Aside0.mk (V7o hw292_ (fun k_ hk_ => by have h_:=HCH.out;omega) O_d_6.out)
 have n309_:=Aside0.mk (V7o hw292_ (fun k_ hk_ => by have h_:=HCH.out;omega) O_t_6.out)
 have n310_:=Aside0.mk (V7o hw292_ (fun k_ hk_ => by have h_:=HCH.out;omega) O_c_6.out)
 have n311_:=Aside0.mk (below7 hw292_ GE_g19.out HB.out)
 have n312_:=Aside0.mk ((size7 hw292_).symm ▸ HS.out)
 rw [set7_fold,hw292_]
 clear hw292_ BK_g19 BK_g7 BK_g11 BK_g14 BK_g15 O_y O_d_1 O_t_1 O_c_1 O_d_3 O_t_3 O_c_3 O_d_4 O_t_4 O_c_4 O_d_6 O_t_6 O_c_6 HB HS
 have BK_g19:=n293_
 have BK_g7:=n294_
 have BK_g11:=n295_
 have BK_g14:=n296_
 have BK_g15:=n297_
 have O_y:=n298_
 have O_d_1:=n299_
 have O_t_1:=n300_
 have O_c_1:=n301_
 have O_d_3:=n302_
 have O_t_3:=n303_
 have O_c_3:=n304_
 have O_d_4:=n305_
 have O_t_4:=n306_
 have O_c_4:=n307_
 have O_d_6:=n308_
 have O_t_6:=n309_
 have O_c_6:=n310_
 have HB:=n311_
 have HS:=n312_
 clear n293_ n294_ n295_ n296_ n297_ n298_ n299_ n300_ n301_ n302_ n303_ n304_ n305_ n306_ n307_ n308_ n309_ n310_ n311_ n312_
 clear BK_g15
 have hx_g7_0 : w33.cell? ⟨g7,0,none⟩ = some (.int .u64 b1):=(blk_cell BK_g7.out 0).trans rfl
 have hf_g7_0:=blk_frozen BK_g7.out 0
 have hx_g7_1 : w33.cell? ⟨g7,1,none⟩ = some (.slice A1 d1.length p_1):=(blk_cell BK_g7.out 1).trans rfl
 have hf_g7_1:=blk_frozen BK_g7.out 1
 have hx_g7_2 : w33.cell? ⟨g7,2,none⟩ = some (.slice B1 t1.length q_1):=(blk_cell BK_g7.out 2).trans rfl
 have hf_g7_2:=blk_frozen BK_g7.out 2
 have hx_g7_3 : w33.cell? ⟨g7,3,none⟩ = some (.slice C1 c1.length r_1):=(blk_cell BK_g7.out 3).trans rfl
 have hf_g7_3:=blk_frozen BK_g7.out 3
 have hx_g7_4 : w33.cell? ⟨g7,4,none⟩ = some (.bool f1):=(blk_cell BK_g7.out 4).trans rfl
 have hf_g7_4:=blk_frozen BK_g7.out 4
 have hx_g7_5 : w33.cell? ⟨g7,5,none⟩ = some (.bool g1_):=(blk_cell BK_g7.out 5).trans rfl
 have hf_g7_5:=blk_frozen BK_g7.out 5
 have hx_g7_6 : w33.cell? ⟨g7,6,none⟩ = some (.bool h1):=(blk_cell BK_g7.out 6).trans rfl
 have hf_g7_6:=blk_frozen BK_g7.out 6
 have hx_g19_0 : w33.cell? ⟨g19,0,none⟩ = some (.int .u64 b1):=(blk_cell BK_g19.out 0).trans rfl
 have hf_g19_0:=blk_frozen BK_g19.out 0
 have hx_g19_1 : w33.cell? ⟨g19,1,none⟩ = some (.slice A6 d1.length p_6):=(blk_cell BK_g19.out 1).trans rfl
 have hf_g19_1:=blk_frozen BK_g19.out 1
 have hx_g19_2 : w33.cell? ⟨g19,2,none⟩ = some (.slice B6 t1.length q_6):=(blk_cell BK_g19.out 2).trans rfl
 have hf_g19_2:=blk_frozen BK_g19.out 2
 have hx_g19_3 : w33.cell? ⟨g19,3,none⟩ = some (.slice C6 c1.length r_6):=(blk_cell BK_g19.out 3).trans rfl
 have hf_g19_3:=blk_frozen BK_g19.out 3
 have hx_g19_4 : w33.cell? ⟨g19,4,none⟩ = some (.bool f1):=(blk_cell BK_g19.out 4).trans rfl
 have hf_g19_4:=blk_frozen BK_g19.out 4
 have hx_g19_5 : w33.cell? ⟨g19,5,none⟩ = some (.bool g1_):=(blk_cell BK_g19.out 5).trans rfl
 have hf_g19_5:=blk_frozen BK_g19.out 5
 have hx_g19_6 : w33.cell? ⟨g19,6,none⟩ = some (.bool h1):=(blk_cell BK_g19.out 6).trans rfl
 have hf_g19_6:=blk_frozen BK_g19.out 6
 go_upto_region 24 with (first
  | ((with_reducible refine gate_callee (f:=13) rfl ?_);refine goesL_ (some 108) rfl rfl Try.func13 (by kernel_rfl) rfl #[.agg #[.int .u64 b1,.slice A1 d1.length p_1,.slice B1 t1.length q_1,.slice C1 c1.length r_1,.bool f1,.bool g1_,.bool h1],.agg #[.int .u64 b1,.slice A6 d1.length p_6,.slice B6 t1.length q_6,.slice C6 c1.length r_6,.bool f1,.bool g1_,.bool h1]] rfl (by (try simp only [List.map_toArray,List.map_cons,List.map_nil]);first | done | rfl) ?_;refine (wigwagref18_Same.calls k b1 _ _ d1 _ _ t1 _ _ c1 f1 g1_ h1 b1 _ _ d1 _ _ t1 _ _ c1 f1 g1_ h1 true _ (Kd.V_reads' O_d_1.out).2.2 (Kd.V_reads' O_d_1.out).2.1 (Kd.V_reads' O_t_1.out).2.2 (Kd.V_reads' O_t_1.out).2.1 (Kd.V_reads' O_c_1.out).2.2 (Kd.V_reads' O_c_1.out).2.1 (Kd.V_reads' O_d_6.out).2.2 (Kd.V_reads' O_d_6.out).2.1 (Kd.V_reads' O_t_6.out).2.2 (Kd.V_reads' O_t_6.out).2.1 (Kd.V_reads' O_c_6.out).2.2 (Kd.V_reads' O_c_6.out).2.1 P6.out).mono ?_;rintro e_ w34 ⟨rfl,hb⟩;refine ⟨_,rfl,?_⟩;clear hx_g7_0 hf_g7_0 hx_g7_1 hf_g7_1 hx_g7_2 hf_g7_2 hx_g7_3 hf_g7_3 hx_g7_4 hf_g7_4 hx_g7_5 hf_g7_5 hx_g7_6 hf_g7_6 hx_g19_0 hf_g19_0 hx_g19_1 hf_g19_1 hx_g19_2 hf_g19_2 hx_g19_3 hf_g19_3 hx_g19_4 hf_g19_4 hx_g19_5 hf_g19_5 hx_g19_6 hf_g19_6;have n313_:=Aside0.mk (below_step HB.out hb);have n314_:=Aside0.mk ((Nat.lt_of_lt_of_le (show _ < _ from HS.out) hb.size : g19 < w34.heap.size));have n315_:=Aside0.mk (blk_below BK_g7.out hb);have n316_:=Aside0.mk (blk_below BK_g11.out hb);have n317_:=Aside0.mk (blk_below BK_g14.out hb);have n318_:=Aside0.mk (blk_below BK_g19.out hb);have n319_:=Aside0.mk (Kd.V_below O_y.out hb);have n320_:=Aside0.mk (Kd.V_below O_d_1.out hb);have n321_:=Aside0.mk (Kd.V_below O_t_1.out hb);have n322_:=Aside0.mk (Kd.V_below O_c_1.out hb);have n323_:=Aside0.mk (Kd.V_below O_d_3.out hb);have n324_:=Aside0.mk (Kd.V_below O_t_3.out hb);have n325_:=Aside0.mk (Kd.V_below O_c_3.out hb);have n326_:=Aside0.mk (Kd.V_below O_d_4.out hb);have n327_:=Aside0.mk (Kd.V_below O_t_4.out hb);have n328_:=Aside0.mk (Kd.V_below O_c_4.out hb);have n329_:=Aside0.mk (Kd.V_below O_d_6.out hb);have n330_:=Aside0.mk (Kd.V_below O_t_6.out hb);have n331_:=Aside0.mk (Kd.V_below O_c_6.out hb);clear HB HS BK_g7 BK_g11 BK_g14 BK_g19 O_y O_d_1 O_t_1 O_c_1 O_d_3 O_t_3 O_c_3 O_d_4 O_t_4 O_c_4 O_d_6 O_t_6 O_c_6;have HB:=n313_;have HS:=n314_;have BK_g7:=n315_;have BK_g11:=n316_;have BK_g14:=n317_;have BK_g19:=n318_;have O_y:=n319_;have O_d_1:=n320_;have O_t_1:=n321_;have O_c_1:=n322_;have O_d_3:=n323_;have O_t_3:=n324_;have O_c_3:=n325_;have O_d_4:=n326_;have O_t_4:=n327_;have O_c_4:=n328_;have O_d_6:=n329_;have O_t_6:=n330_;have O_c_6:=n331_;clear n313_ n314_ n315_ n316_ n317_ n318_ n319_ n320_ n321_ n322_ n323_ n324_ n325_ n326_ n327_ n328_ n329_ n330_ n331_;clear hb;have hx_g19_0 : w34.cell? ⟨g19,0,none⟩ = some (.int .u64 b1):=(blk_cell BK_g19.out 0).trans rfl;have hf_g19_0:=blk_frozen BK_g19.out 0;have hx_g19_1 : w34.cell? ⟨g19,1,none⟩ = some (.slice A6 d1.length p_6):=(blk_cell BK_g19.out 1).trans rfl;have hf_g19_1:=blk_frozen BK_g19.out 1;have hx_g19_2 : w34.cell? ⟨g19,2,none⟩ = some (.slice B6 t1.length q_6):=(blk_cell BK_g19.out 2).trans rfl;have hf_g19_2:=blk_frozen BK_g19.out 2;have hx_g19_3 : w34.cell? ⟨g19,3,none⟩ = some (.slice C6 c1.length r_6):=(blk_cell BK_g19.out 3).trans rfl;have hf_g19_3:=blk_frozen BK_g19.out 3;have hx_g19_4 : w34.cell? ⟨g19,4,none⟩ = some (.bool f1):=(blk_cell BK_g19.out 4).trans rfl;have hf_g19_4:=blk_frozen BK_g19.out 4;have hx_g19_5 : w34.cell? ⟨g19,5,none⟩ = some (.bool g1_):=(blk_cell BK_g19.out 5).trans rfl;have hf_g19_5:=blk_frozen BK_g19.out 5;have hx_g19_6 : w34.cell? ⟨g19,6,none⟩ = some (.bool h1):=(blk_cell BK_g19.out 6).trans rfl;have hf_g19_6:=blk_frozen BK_g19.out 6))
 clear O_d_1 O_t_1 O_c_1
 clear BK_g7
 go_upto_region 25 with (first
  | ((with_reducible refine gate_callee (f:=9) rfl ?_);refine goesL_ (some 112) rfl rfl Try.func9 (by kernel_rfl) rfl #[.agg #[.int .u64 b1,.slice A6 d1.length p_6,.slice B6 t1.length q_6,.slice C6 c1.length r_6,.bool f1,.bool g1_,.bool h1],.slice A0 l0.length c0] rfl (by (try simp only [List.map_toArray,List.map_cons,List.map_nil]);first | done | rfl) ?_;refine (supply_Write.calls k b1 _ _ d1 _ _ t1 _ _ c1 f1 g1_ h1 A0 c0 l0 _ _ _ _ _ _ _ _ _ (Kd.V_reads' O_d_6.out).2.2 (Kd.V_reads' O_d_6.out).2.1 (Kd.V_reads' O_t_6.out).2.2 (Kd.V_reads' O_t_6.out).2.1 (Kd.V_reads' O_c_6.out).2.2 (Kd.V_reads' O_c_6.out).2.1 (Kd.C_below HR0.out HB.out) HC0.out P2.out).mono ?_;rintro e_ w35 ⟨u1,u2,u3,rfl,ho1,ho2,ho3,hb⟩;refine ⟨_,rfl,?_⟩;obtain ⟨p7,hp7⟩ : ∃ n_ : Nat,n_ = w34.heap.size:=⟨_,rfl⟩;obtain ⟨q7,hq7⟩ : ∃ n_ : Nat,n_ = w35.heap.size:=⟨_,rfl⟩;replace HCH:=Aside0.mk (And.intro HCH.out (show g19 < p7 ∧ p7 ≤ q7 by have h_:=HS.out;have h2_:=hb.size;omega));have O_d_7:=Aside0.mk (Kd.R_V (base':=w34.heap.size) (Kd.R_mono (Kd.R_bound ho1) (ok':=fun k_ => p7 ≤ k_ ∧ k_ < q7) (fun k_ hk_ => ⟨by rw [hp7];exact hk_.2.1,by rw [hq7];exact hk_.2.2.1⟩)));have O_t_7:=Aside0.mk (Kd.R_V (base':=w34.heap.size) (Kd.R_mono (Kd.R_bound ho2) (ok':=fun k_ => p7 ≤ k_ ∧ k_ < q7) (fun k_ hk_ => ⟨by rw [hp7];exact hk_.2.1,by rw [hq7];exact hk_.2.2.1⟩)));have O_c_7:=Aside0.mk (Kd.R_V (base':=w34.heap.size) (Kd.R_mono (Kd.R_bound ho3) (ok':=fun k_ => p7 ≤ k_ ∧ k_ < q7) (fun k_ hk_ => ⟨by rw [hp7];exact hk_.2.1,by rw [hq7];exact hk_.2.2.1⟩)));clear ho1 ho2 ho3;clear hx_g19_0 hf_g19_0 hx_g19_1 hf_g19_1 hx_g19_2 hf_g19_2 hx_g19_3 hf_g19_3 hx_g19_4 hf_g19_4 hx_g19_5 hf_g19_5 hx_g19_6 hf_g19_6;have n332_:=Aside0.mk (below_step HB.out hb);have n333_:=Aside0.mk ((Nat.lt_of_lt_of_le (show _ < _ from HS.out) hb.size : g19 < w35.heap.size));have n334_:=Aside0.mk (blk_below BK_g11.out hb);have n335_:=Aside0.mk (blk_below BK_g14.out hb);have n336_:=Aside0.mk (blk_below BK_g19.out hb);have n337_:=Aside0.mk (Kd.V_below O_y.out hb);have n338_:=Aside0.mk (Kd.V_below O_d_3.out hb);have n339_:=Aside0.mk (Kd.V_below O_t_3.out hb);have n340_:=Aside0.mk (Kd.V_below O_c_3.out hb);have n341_:=Aside0.mk (Kd.V_below O_d_4.out hb);have n342_:=Aside0.mk (Kd.V_below O_t_4.out hb);have n343_:=Aside0.mk (Kd.V_below O_c_4.out hb);have n344_:=Aside0.mk (Kd.V_below O_d_6.out hb);have n345_:=Aside0.mk (Kd.V_below O_t_6.out hb);have n346_:=Aside0.mk (Kd.V_below O_c_6.out hb);clear HB HS BK_g11 BK_g14 BK_g19 O_y O_d_3 O_t_3 O_c_3 O_d_4 O_t_4 O_c_4 O_d_6 O_t_6 O_c_6;have HB:=n332_;have HS:=n333_;have BK_g11:=n334_;have BK_g14:=n335_;have BK_g19:=n336_;have O_y:=n337_;have O_d_3:=n338_;have O_t_3:=n339_;have O_c_3:=n340_;have O_d_4:=n341_;have O_t_4:=n342_;have O_c_4:=n343_;have O_d_6:=n344_;have O_t_6:=n345_;have O_c_6:=n346_;clear n332_ n333_ n334_ n335_ n336_ n337_ n338_ n339_ n340_ n341_ n342_ n343_ n344_ n345_ n346_;replace HS:=Aside0.mk (show q7 ≤ w35.heap.size by rw [hq7];exact Nat.le_refl _);clear hb hp7 hq7;obtain ⟨A7,p_7,eo⟩:=Kd.V_slice O_d_7.out;subst eo;obtain ⟨B7,q_7,eo⟩:=Kd.V_slice O_t_7.out;subst eo;obtain ⟨C7,r_7,eo⟩:=Kd.V_slice O_c_7.out;subst eo)
  | ((with_reducible refine gate_dst (N:=22) rfl ?_);refine box_event ?hg (N:=22) ?hd (cs:=#[.int .u64 0,.slice none 0 0,.slice none 0 0,.slice none 0 0,.bool false,.bool false,.bool false]) (t:=27) ?hr ?_;(case hd => rfl);(case hg => rfl);(case hr => first | (go_simp;done) | (go_simp;rfl));intro g22 hg w36 hbox hb;have GE_g22:=Aside0.mk (show w.heap.size ≤ g22 by rw [hg];exact HB.out.size);have NB_g11_g22 : g11 ≠ g22:=(by rw [hg];exact Nat.ne_of_lt (blk_lt BK_g11.out));have NB_g22_g11:=NB_g11_g22.symm;have NB_g14_g22 : g14 ≠ g22:=(by rw [hg];exact Nat.ne_of_lt (blk_lt BK_g14.out));have NB_g22_g14:=NB_g14_g22.symm;have NB_g19_g22 : g19 ≠ g22:=(by rw [hg];exact Nat.ne_of_lt (blk_lt BK_g19.out));have NB_g22_g19:=NB_g19_g22.symm;replace HCH:=Aside0.mk (And.intro HCH.out (show q7 ≤ g22 by rw [hg];exact HS.out));have n347_:=Aside0.mk (below_step HB.out hb);have n348_:=Aside0.mk ((Nat.le_trans (show _ ≤ _ from HS.out) hb.size : q7 ≤ w36.heap.size));have n349_:=Aside0.mk (blk_below BK_g11.out hb);have n350_:=Aside0.mk (blk_below BK_g14.out hb);have n351_:=Aside0.mk (blk_below BK_g19.out hb);have n352_:=Aside0.mk (Kd.V_below O_y.out hb);have n353_:=Aside0.mk (Kd.V_below O_d_3.out hb);have n354_:=Aside0.mk (Kd.V_below O_t_3.out hb);have n355_:=Aside0.mk (Kd.V_below O_c_3.out hb);have n356_:=Aside0.mk (Kd.V_below O_d_4.out hb);have n357_:=Aside0.mk (Kd.V_below O_t_4.out hb);have n358_:=Aside0.mk (Kd.V_below O_c_4.out hb);have n359_:=Aside0.mk (Kd.V_below O_d_6.out hb);have n360_:=Aside0.mk (Kd.V_below O_t_6.out hb);have n361_:=Aside0.mk (Kd.V_below O_c_6.out hb);have n362_:=Aside0.mk (Kd.V_below O_d_7.out hb);have n363_:=Aside0.mk (Kd.V_below O_t_7.out hb);have n364_:=Aside0.mk (Kd.V_below O_c_7.out hb);clear HB HS BK_g11 BK_g14 BK_g19 O_y O_d_3 O_t_3 O_c_3 O_d_4 O_t_4 O_c_4 O_d_6 O_t_6 O_c_6 O_d_7 O_t_7 O_c_7;have HB:=n347_;have HS:=n348_;have BK_g11:=n349_;have BK_g14:=n350_;have BK_g19:=n351_;have O_y:=n352_;have O_d_3:=n353_;have O_t_3:=n354_;have O_c_3:=n355_;have O_d_4:=n356_;have O_t_4:=n357_;have O_c_4:=n358_;have O_d_6:=n359_;have O_t_6:=n360_;have O_c_6:=n361_;have O_d_7:=n362_;have O_t_7:=n363_;have O_c_7:=n364_;clear n347_ n348_ n349_ n350_ n351_ n352_ n353_ n354_ n355_ n356_ n357_ n358_ n359_ n360_ n361_ n362_ n363_ n364_;replace HS:=Aside0.mk (show g22 < w36.heap.size from blk_lt hbox);have BK_g22:=Aside0.mk hbox;clear hbox hb hg;have hx_g22_0 : w36.cell? ⟨g22,0,none⟩ = some (.int .u64 0):=(blk_cell BK_g22.out 0).trans rfl;have hf_g22_0:=blk_frozen BK_g22.out 0;have hx_g22_1 : w36.cell? ⟨g22,1,none⟩ = some (.slice none 0 0):=(blk_cell BK_g22.out 1).trans rfl;have hf_g22_1:=blk_frozen BK_g22.out 1;have hx_g22_2 : w36.cell? ⟨g22,2,none⟩ = some (.slice none 0 0):=(blk_cell BK_g22.out 2).trans rfl;have hf_g22_2:=blk_frozen BK_g22.out 2;have hx_g22_3 : w36.cell? ⟨g22,3,none⟩ = some (.slice none 0 0):=(blk_cell BK_g22.out 3).trans rfl;have hf_g22_3:=blk_frozen BK_g22.out 3;have hx_g22_4 : w36.cell? ⟨g22,4,none⟩ = some (.bool false):=(blk_cell BK_g22.out 4).trans rfl;have hf_g22_4:=blk_frozen BK_g22.out 4;have hx_g22_5 : w36.cell? ⟨g22,5,none⟩ = some (.bool false):=(blk_cell BK_g22.out 5).trans rfl;have hf_g22_5:=blk_frozen BK_g22.out 5;have hx_g22_6 : w36.cell? ⟨g22,6,none⟩ = some (.bool false):=(blk_cell BK_g22.out 6).trans rfl;have hf_g22_6:=blk_frozen BK_g22.out 6))
 clear hx_g22_0 hf_g22_0 hx_g22_1 hf_g22_1 hx_g22_2 hf_g22_2 hx_g22_3 hf_g22_3 hx_g22_4 hf_g22_4 hx_g22_5 hf_g22_5 hx_g22_6 hf_g22_6
 obtain ⟨w37,hw365_⟩ : ∃ w_ : World,set7 w36 g22 (.int .u64 b2) (.slice A7 d2.length p_7) (.slice B7 t2.length q_7) (.slice C7 c2.length r_7) (.bool f2) (.bool g2_) (.bool h2) = w_:=⟨_,rfl⟩
 have n366_:=Aside0.mk (blk7 hw365_ BK_g22.out)
 have n367_:=Aside0.mk (far7 hw365_ NB_g11_g22 BK_g11.out)
 have n368_:=Aside0.mk (far7 hw365_ NB_g14_g22 BK_g14.out)
 have n369_:=Aside0.mk (far7 hw365_ NB_g19_g22 BK_g19.out)
 have n370_:=Aside0.mk (V7o hw365_ (fun k_ hk_ => by have h_:=HCH.out;omega) O_y.out)
 have n371_:=Aside0.mk (V7o hw365_ (fun k_ hk_ => by have h_:=HCH.out;omega) O_d_3.out)
 have n372_:=Aside0.mk (V7o hw365_ (fun k_ hk_ => by have h_:=HCH.out;omega) O_t_3.out)
 have n373_:=Aside0.mk (V7o hw365_ (fun k_ hk_ => by have h_:=HCH.out;omega) O_c_3.out)
 have n374_:=Aside0.mk (V7o hw365_ (fun k_ hk_ => by have h_:=HCH.out;omega) O_d_4.out)
 have n375_:=Aside0.mk (V7o hw365_ (fun k_ hk_ => by have h_:=HCH.out;omega) O_t_4.out)
 have n376_:=Aside0.mk (V7o hw365_ (fun k_ hk_ => by have h_:=HCH.out;omega) O_c_4.out)
 have n377_:=Aside0.mk (V7o hw365_ (fun k_ hk_ => by have h_:=HCH.out;omega) O_d_6.out)
 have n378_:=Aside0.mk (V7o hw365_ (fun k_ hk_ => by have h_:=HCH.out;omega) O_t_6.out)
 have n379_:=Aside0.mk (V7o hw365_ (fun k_ hk_ => by have h_:=HCH.out;omega) O_c_6.out)
 have n380_:=Aside0.mk (V7o hw365_ (fun k_ hk_ => by have h_:=HCH.out;omega) O_d_7.out)
 have n381_:=Aside0.mk (V7o hw365_ (fun k_ hk_ => by have h_:=HCH.out;omega) O_t_7.out)
 have n382_:=Aside0.mk (V7o hw365_ (fun k_ hk_ => by have h_:=HCH.out;omega) O_c_7.out)
 have n383_:=Aside0.mk (below7 hw365_ GE_g22.out HB.out)
 have n384_:=Aside0.mk ((size7 hw365_).symm ▸ HS.out)
 rw [set7_fold,hw365_]
 clear hw365_ BK_g22 BK_g11 BK_g14 BK_g19 O_y O_d_3 O_t_3 O_c_3 O_d_4 O_t_4 O_c_4 O_d_6 O_t_6 O_c_6 O_d_7 O_t_7 O_c_7 HB HS
 have BK_g22:=n366_
 have BK_g11:=n367_
 have BK_g14:=n368_
 have BK_g19:=n369_
 have O_y:=n370_
 have O_d_3:=n371_
 have O_t_3:=n372_
 have O_c_3:=n373_
 have O_d_4:=n374_
 have O_t_4:=n375_
 have O_c_4:=n376_
 have O_d_6:=n377_
 have O_t_6:=n378_
 have O_c_6:=n379_
 have O_d_7:=n380_
 have O_t_7:=n381_
 have O_c_7:=n382_
 have HB:=n383_
 have HS:=n384_
 clear n366_ n367_ n368_ n369_ n370_ n371_ n372_ n373_ n374_ n375_ n376_ n377_ n378_ n379_ n380_ n381_ n382_ n383_ n384_
 have hx_g22_0 : w37.cell? ⟨g22,0,none⟩ = some (.int .u64 b2):=(blk_cell BK_g22.out 0).trans rfl
 have hf_g22_0:=blk_frozen BK_g22.out 0
 have hx_g22_1 : w37.cell? ⟨g22,1,none⟩ = some (.slice A7 d2.length p_7):=(blk_cell BK_g22.out 1).trans rfl
 have hf_g22_1:=blk_frozen BK_g22.out 1
 have hx_g22_2 : w37.cell? ⟨g22,2,none⟩ = some (.slice B7 t2.length q_7):=(blk_cell BK_g22.out 2).trans rfl
 have hf_g22_2:=blk_frozen BK_g22.out 2
 have hx_g22_3 : w37.cell? ⟨g22,3,none⟩ = some (.slice C7 c2.length r_7):=(blk_cell BK_g22.out 3).trans rfl
 have hf_g22_3:=blk_frozen BK_g22.out 3
 have hx_g22_4 : w37.cell? ⟨g22,4,none⟩ = some (.bool f2):=(blk_cell BK_g22.out 4).trans rfl
 have hf_g22_4:=blk_frozen BK_g22.out 4
 have hx_g22_5 : w37.cell? ⟨g22,5,none⟩ = some (.bool g2_):=(blk_cell BK_g22.out 5).trans rfl
 have hf_g22_5:=blk_frozen BK_g22.out 5
 have hx_g22_6 : w37.cell? ⟨g22,6,none⟩ = some (.bool h2):=(blk_cell BK_g22.out 6).trans rfl
 have hf_g22_6:=blk_frozen BK_g22.out 6
 clear O_d_6 O_t_6 O_c_6
 clear BK_g19
 go_upto_region 26 with (first
  | ((with_reducible refine gate_callee (f:=10) rfl ?_);refine goesL_ (some 118) rfl rfl Try.func10 (by kernel_rfl) rfl #[.agg #[.int .u64 b2,.slice A7 d2.length p_7,.slice B7 t2.length q_7,.slice C7 c2.length r_7,.bool f2,.bool g2_,.bool h2],.int .i64 a1,.int .u64 1048576] rfl (by (try simp only [List.map_toArray,List.map_cons,List.map_nil]);first | done | rfl) ?_;refine (supply_Next_own.calls b2 _ _ d2 _ _ t2 _ _ c2 f2 g2_ h2 a1 1048576 _ _ _ _ _ _ _ _ _ _ _ _ (Kd.V_reads' O_d_7.out).2.2 (Kd.V_reads' O_d_7.out).2.1 (Kd.V_reads' O_t_7.out).2.2 (Kd.V_reads' O_t_7.out).2.1 (Kd.V_reads' O_c_7.out).2.2 (Kd.V_reads' O_c_7.out).2.1 P3.out).mono ?_;rintro e_ w38 ⟨u1,u2,u3,u4,rfl,ho1,ho2,ho3,ho4,hb⟩;refine ⟨_,rfl,?_⟩;obtain ⟨p8,hp8⟩ : ∃ n_ : Nat,n_ = w37.heap.size:=⟨_,rfl⟩;obtain ⟨q8,hq8⟩ : ∃ n_ : Nat,n_ = w38.heap.size:=⟨_,rfl⟩;replace HCH:=Aside0.mk (And.intro HCH.out (show g22 < p8 ∧ p8 ≤ q8 by have h_:=HS.out;have h2_:=hb.size;omega));have O_d_8:=Aside0.mk (Kd.V_mono (Kd.V_bound ho1) (ok':=fun k_ => p8 ≤ k_ ∧ k_ < q8) (fun k_ hk_ => ⟨by rw [hp8];exact hk_.1.1,by rw [hq8];exact hk_.2⟩));have O_t_8:=Aside0.mk (Kd.V_mono (Kd.V_bound ho2) (ok':=fun k_ => p8 ≤ k_ ∧ k_ < q8) (fun k_ hk_ => ⟨by rw [hp8];exact hk_.1.1,by rw [hq8];exact hk_.2⟩));have O_c_8:=Aside0.mk (Kd.V_mono (Kd.V_bound ho3) (ok':=fun k_ => p8 ≤ k_ ∧ k_ < q8) (fun k_ hk_ => ⟨by rw [hp8];exact hk_.1.1,by rw [hq8];exact hk_.2⟩));have O_m_8:=Aside0.mk (Kd.V_mono (Kd.V_bound (Kd.R_V (base':=w37.heap.size) ho4)) (ok':=fun k_ => p8 ≤ k_ ∧ k_ < q8) (fun k_ hk_ => ⟨by rw [hp8];exact hk_.1,by rw [hq8];exact hk_.2⟩));clear ho1 ho2 ho3 ho4;clear hx_g22_0 hf_g22_0 hx_g22_1 hf_g22_1 hx_g22_2 hf_g22_2 hx_g22_3 hf_g22_3 hx_g22_4 hf_g22_4 hx_g22_5 hf_g22_5 hx_g22_6 hf_g22_6;have n385_:=Aside0.mk (below_step HB.out hb);have n386_:=Aside0.mk ((Nat.lt_of_lt_of_le (show _ < _ from HS.out) hb.size : g22 < w38.heap.size));have n387_:=Aside0.mk (blk_below BK_g11.out hb);have n388_:=Aside0.mk (blk_below BK_g14.out hb);have n389_:=Aside0.mk (blk_below BK_g22.out hb);have n390_:=Aside0.mk (Kd.V_below O_y.out hb);have n391_:=Aside0.mk (Kd.V_below O_d_3.out hb);have n392_:=Aside0.mk (Kd.V_below O_t_3.out hb);have n393_:=Aside0.mk (Kd.V_below O_c_3.out hb);have n394_:=Aside0.mk (Kd.V_below O_d_4.out hb);have n395_:=Aside0.mk (Kd.V_below O_t_4.out hb);have n396_:=Aside0.mk (Kd.V_below O_c_4.out hb);have n397_:=Aside0.mk (Kd.V_below O_d_7.out hb);have n398_:=Aside0.mk (Kd.V_below O_t_7.out hb);have n399_:=Aside0.mk (Kd.V_below O_c_7.out hb);clear HB HS BK_g11 BK_g14 BK_g22 O_y O_d_3 O_t_3 O_c_3 O_d_4 O_t_4 O_c_4 O_d_7 O_t_7 O_c_7;have HB:=n385_;have HS:=n386_;have BK_g11:=n387_;have BK_g14:=n388_;have BK_g22:=n389_;have O_y:=n390_;have O_d_3:=n391_;have O_t_3:=n392_;have O_c_3:=n393_;have O_d_4:=n394_;have O_t_4:=n395_;have O_c_4:=n396_;have O_d_7:=n397_;have O_t_7:=n398_;have O_c_7:=n399_;clear n385_ n386_ n387_ n388_ n389_ n390_ n391_ n392_ n393_ n394_ n395_ n396_ n397_ n398_ n399_;replace HS:=Aside0.mk (show q8 ≤ w38.heap.size by rw [hq8];exact Nat.le_refl _);clear hb hp8 hq8;obtain ⟨A8,p_8,eo⟩:=Kd.V_slice O_d_8.out;subst eo;obtain ⟨B8,q_8,eo⟩:=Kd.V_slice O_t_8.out;subst eo;obtain ⟨C8,r_8,eo⟩:=Kd.V_slice O_c_8.out;subst eo;obtain ⟨M8,n8,eo⟩:=Kd.V_slice O_m_8.out;subst eo)
  | ((with_reducible refine gate_dst (N:=24) rfl ?_);refine box_event ?hg (N:=24) ?hd (cs:=#[.int .u64 0,.slice none 0 0,.slice none 0 0,.slice none 0 0,.bool false,.bool false,.bool false]) (t:=27) ?hr ?_;(case hd => rfl);(case hg => rfl);(case hr => first | (go_simp;done) | (go_simp;rfl));intro g24 hg w39 hbox hb;have GE_g24:=Aside0.mk (show w.heap.size ≤ g24 by rw [hg];exact HB.out.size);have NB_g11_g24 : g11 ≠ g24:=(by rw [hg];exact Nat.ne_of_lt (blk_lt BK_g11.out));have NB_g24_g11:=NB_g11_g24.symm;have NB_g14_g24 : g14 ≠ g24:=(by rw [hg];exact Nat.ne_of_lt (blk_lt BK_g14.out));have NB_g24_g14:=NB_g14_g24.symm;have NB_g22_g24 : g22 ≠ g24:=(by rw [hg];exact Nat.ne_of_lt (blk_lt BK_g22.out));have NB_g24_g22:=NB_g22_g24.symm;replace HCH:=Aside0.mk (And.intro HCH.out (show q8 ≤ g24 by rw [hg];exact HS.out));have n400_:=Aside0.mk (below_step HB.out hb);have n401_:=Aside0.mk ((Nat.le_trans (show _ ≤ _ from HS.out) hb.size : q8 ≤ w39.heap.size));have n402_:=Aside0.mk (blk_below BK_g11.out hb);have n403_:=Aside0.mk (blk_below BK_g14.out hb);have n404_:=Aside0.mk (blk_below BK_g22.out hb);have n405_:=Aside0.mk (Kd.V_below O_y.out hb);have n406_:=Aside0.mk (Kd.V_below O_d_3.out hb);have n407_:=Aside0.mk (Kd.V_below O_t_3.out hb);have n408_:=Aside0.mk (Kd.V_below O_c_3.out hb);have n409_:=Aside0.mk (Kd.V_below O_d_4.out hb);have n410_:=Aside0.mk (Kd.V_below O_t_4.out hb);have n411_:=Aside0.mk (Kd.V_below O_c_4.out hb);have n412_:=Aside0.mk (Kd.V_below O_d_7.out hb);have n413_:=Aside0.mk (Kd.V_below O_t_7.out hb);have n414_:=Aside0.mk (Kd.V_below O_c_7.out hb);have n415_:=Aside0.mk (Kd.V_below O_d_8.out hb);have n416_:=Aside0.mk (Kd.V_below O_t_8.out hb);have n417_:=Aside0.mk (Kd.V_below O_c_8.out hb);have n418_:=Aside0.mk (Kd.V_below O_m_8.out hb);clear HB HS BK_g11 BK_g14 BK_g22 O_y O_d_3 O_t_3 O_c_3 O_d_4 O_t_4 O_c_4 O_d_7 O_t_7 O_c_7 O_d_8 O_t_8 O_c_8 O_m_8;have HB:=n400_;have HS:=n401_;have BK_g11:=n402_;have BK_g14:=n403_;have BK_g22:=n404_;have O_y:=n405_;have O_d_3:=n406_;have O_t_3:=n407_;have O_c_3:=n408_;have O_d_4:=n409_;have O_t_4:=n410_;have O_c_4:=n411_;have O_d_7:=n412_;have O_t_7:=n413_;have O_c_7:=n414_;have O_d_8:=n415_;have O_t_8:=n416_;have O_c_8:=n417_;have O_m_8:=n418_;clear n400_ n401_ n402_ n403_ n404_ n405_ n406_ n407_ n408_ n409_ n410_ n411_ n412_ n413_ n414_ n415_ n416_ n417_ n418_;replace HS:=Aside0.mk (show g24 < w39.heap.size from blk_lt hbox);have BK_g24:=Aside0.mk hbox;clear hbox hb hg)
  | ((with_reducible refine gate_dst (N:=25) rfl ?_);refine box_event ?hg (N:=25) ?hd (cs:=#[.int .u64 0,.slice none 0 0,.bool false]) (t:=32) ?hr ?_;(case hd => rfl);(case hg => rfl);(case hr => first | (go_simp;done) | (go_simp;rfl));intro g25 hg w40 hbox hb;have GE_g25:=Aside0.mk (show w.heap.size ≤ g25 by rw [hg];exact HB.out.size);have NB_g11_g25 : g11 ≠ g25:=(by rw [hg];exact Nat.ne_of_lt (blk_lt BK_g11.out));have NB_g25_g11:=NB_g11_g25.symm;have NB_g14_g25 : g14 ≠ g25:=(by rw [hg];exact Nat.ne_of_lt (blk_lt BK_g14.out));have NB_g25_g14:=NB_g14_g25.symm;have NB_g22_g25 : g22 ≠ g25:=(by rw [hg];exact Nat.ne_of_lt (blk_lt BK_g22.out));have NB_g25_g22:=NB_g22_g25.symm;have NB_g24_g25 : g24 ≠ g25:=(by rw [hg];exact Nat.ne_of_lt (blk_lt BK_g24.out));have NB_g25_g24:=NB_g24_g25.symm;replace HCH:=Aside0.mk (And.intro HCH.out (show g24 < g25 by rw [hg];exact HS.out));have n419_:=Aside0.mk (below_step HB.out hb);have n420_:=Aside0.mk ((Nat.lt_of_lt_of_le (show _ < _ from HS.out) hb.size : g24 < w40.heap.size));have n421_:=Aside0.mk (blk_below BK_g11.out hb);have n422_:=Aside0.mk (blk_below BK_g14.out hb);have n423_:=Aside0.mk (blk_below BK_g22.out hb);have n424_:=Aside0.mk (blk_below BK_g24.out hb);have n425_:=Aside0.mk (Kd.V_below O_y.out hb);have n426_:=Aside0.mk (Kd.V_below O_d_3.out hb);have n427_:=Aside0.mk (Kd.V_below O_t_3.out hb);have n428_:=Aside0.mk (Kd.V_below O_c_3.out hb);have n429_:=Aside0.mk (Kd.V_below O_d_4.out hb);have n430_:=Aside0.mk (Kd.V_below O_t_4.out hb);have n431_:=Aside0.mk (Kd.V_below O_c_4.out hb);have n432_:=Aside0.mk (Kd.V_below O_d_7.out hb);have n433_:=Aside0.mk (Kd.V_below O_t_7.out hb);have n434_:=Aside0.mk (Kd.V_below O_c_7.out hb);have n435_:=Aside0.mk (Kd.V_below O_d_8.out hb);have n436_:=Aside0.mk (Kd.V_below O_t_8.out hb);have n437_:=Aside0.mk (Kd.V_below O_c_8.out hb);have n438_:=Aside0.mk (Kd.V_below O_m_8.out hb);clear HB HS BK_g11 BK_g14 BK_g22 BK_g24 O_y O_d_3 O_t_3 O_c_3 O_d_4 O_t_4 O_c_4 O_d_7 O_t_7 O_c_7 O_d_8 O_t_8 O_c_8 O_m_8;have HB:=n419_;have HS:=n420_;have BK_g11:=n421_;have BK_g14:=n422_;have BK_g22:=n423_;have BK_g24:=n424_;have O_y:=n425_;have O_d_3:=n426_;have O_t_3:=n427_;have O_c_3:=n428_;have O_d_4:=n429_;have O_t_4:=n430_;have O_c_4:=n431_;have O_d_7:=n432_;have O_t_7:=n433_;have O_c_7:=n434_;have O_d_8:=n435_;have O_t_8:=n436_;have O_c_8:=n437_;have O_m_8:=n438_;clear n419_ n420_ n421_ n422_ n423_ n424_ n425_ n426_ n427_ n428_ n429_ n430_ n431_ n432_ n433_ n434_ n435_ n436_ n437_ n438_;replace HS:=Aside0.mk (show g25 < w40.heap.size from blk_lt hbox);have BK_g25:=Aside0.mk hbox;clear hbox hb hg;have hx_g24_0 : w40.cell? ⟨g24,0,none⟩ = some (.int .u64 0):=(blk_cell BK_g24.out 0).trans rfl;have hf_g24_0:=blk_frozen BK_g24.out 0;have hx_g24_1 : w40.cell? ⟨g24,1,none⟩ = some (.slice none 0 0):=(blk_cell BK_g24.out 1).trans rfl;have hf_g24_1:=blk_frozen BK_g24.out 1;have hx_g24_2 : w40.cell? ⟨g24,2,none⟩ = some (.slice none 0 0):=(blk_cell BK_g24.out 2).trans rfl;have hf_g24_2:=blk_frozen BK_g24.out 2;have hx_g24_3 : w40.cell? ⟨g24,3,none⟩ = some (.slice none 0 0):=(blk_cell BK_g24.out 3).trans rfl;have hf_g24_3:=blk_frozen BK_g24.out 3;have hx_g24_4 : w40.cell? ⟨g24,4,none⟩ = some (.bool false):=(blk_cell BK_g24.out 4).trans rfl;have hf_g24_4:=blk_frozen BK_g24.out 4;have hx_g24_5 : w40.cell? ⟨g24,5,none⟩ = some (.bool false):=(blk_cell BK_g24.out 5).trans rfl;have hf_g24_5:=blk_frozen BK_g24.out 5;have hx_g24_6 : w40.cell? ⟨g24,6,none⟩ = some (.bool false):=(blk_cell BK_g24.out 6).trans rfl;have hf_g24_6:=blk_frozen BK_g24.out 6;have hx_g25_0 : w40.cell? ⟨g25,0,none⟩ = some (.int .u64 0):=(blk_cell BK_g25.out 0).trans rfl;have hf_g25_0:=blk_frozen BK_g25.out 0;have hx_g25_1 : w40.cell? ⟨g25,1,none⟩ = some (.slice none 0 0):=(blk_cell BK_g25.out 1).trans rfl;have hf_g25_1:=blk_frozen BK_g25.out 1;have hx_g25_2 : w40.cell? ⟨g25,2,none⟩ = some (.bool false):=(blk_cell BK_g25.out 2).trans rfl;have hf_g25_2:=blk_frozen BK_g25.out 2))
 clear hx_g24_0 hf_g24_0 hx_g24_1 hf_g24_1 hx_g24_2 hf_g24_2 hx_g24_3 hf_g24_3 hx_g24_4 hf_g24_4 hx_g24_5 hf_g24_5 hx_g24_6 hf_g24_6 hx_g25_0 hf_g25_0 hx_g25_1 hf_g25_1 hx_g25_2 hf_g25_2
 obtain ⟨w41,hw439_⟩ : ∃ w_ : World,set7 w40 g24 (.int .u64 b3) (.slice A8 d3.length p_8) (.slice B8 t3.length q_8) (.slice C8 c3.length r_8) (.bool f3) (.bool g3_) (.bool h3) = w_:=⟨_,rfl⟩
 have n440_:=Aside0.mk (blk7 hw439_ BK_g24.out)
 have n441_:=Aside0.mk (far7 hw439_ NB_g11_g24 BK_g11.out)
 have n442_:=Aside0.mk (far7 hw439_ NB_g14_g24 BK_g14.out)
 have n443_:=Aside0.mk (far7 hw439_ NB_g22_g24 BK_g22.out)
 have n444_:=Aside0.mk (far7 hw439_ NB_g25_g24 BK_g25.out)
 have n445_:=Aside0.mk (V7o hw439_ (fun k_ hk_ => by have h_:=HCH.out;omega) O_y.out)
 have n446_:=Aside0.mk (V7o hw439_ (fun k_ hk_ => by have h_:=HCH.out;omega) O_d_3.out)
 have n447_:=Aside0.mk (V7o hw439_ (fun k_ hk_ => by have h_:=HCH.out;omega) O_t_3.out)
 have n448_:=Aside0.mk (V7o hw439_ (fun k_ hk_ => by have h_:=HCH.out;omega) O_c_3.out)
 have n449_:=Aside0.mk (V7o hw439_ (fun k_ hk_ => by have h_:=HCH.out;omega) O_d_4.out)
 have n450_:=Aside0.mk (V7o hw439_ (fun k_ hk_ => by have h_:=HCH.out;omega) O_t_4.out)
 have n451_:=Aside0.mk (V7o hw439_ (fun k_ hk_ => by have h_:=HCH.out;omega) O_c_4.out)
 have n452_:=Aside0.mk (V7o hw439_ (fun k_ hk_ => by have h_:=HCH.out;omega) O_d_7.out)
 have n453_:=Aside0.mk (V7o hw439_ (fun k_ hk_ => by have h_:=HCH.out;omega) O_t_7.out)
 have n454_:=Aside0.mk (V7o hw439_ (fun k_ hk_ => by have h_:=HCH.out;omega) O_c_7.out)
 have n455_:=Aside0.mk (V7o hw439_ (fun k_ hk_ => by have h_:=HCH.out;omega) O_d_8.out)
 have n456_:=Aside0.mk (V7o hw439_ (fun k_ hk_ => by have h_:=HCH.out;omega) O_t_8.out)
 have n457_:=Aside0.mk (V7o hw439_ (fun k_ hk_ => by have h_:=HCH.out;omega) O_c_8.out)
 have n458_:=Aside0.mk (V7o hw439_ (fun k_ hk_ => by have h_:=HCH.out;omega) O_m_8.out)
 have n459_:=Aside0.mk (below7 hw439_ GE_g24.out HB.out)
 have n460_:=Aside0.mk ((size7 hw439_).symm ▸ HS.out)
 rw [set7_fold,hw439_]
 clear hw439_ BK_g24 BK_g11 BK_g14 BK_g22 BK_g25 O_y O_d_3 O_t_3 O_c_3 O_d_4 O_t_4 O_c_4 O_d_7 O_t_7 O_c_7 O_d_8 O_t_8 O_c_8 O_m_8 HB HS
 have BK_g24:=n440_
 have BK_g11:=n441_
 have BK_g14:=n442_
 have BK_g22:=n443_
 have BK_g25:=n444_
 have O_y:=n445_
 have O_d_3:=n446_
 have O_t_3:=n447_
 have O_c_3:=n448_
 have O_d_4:=n449_
 have O_t_4:=n450_
 have O_c_4:=n451_
 have O_d_7:=n452_
 have O_t_7:=n453_
 have O_c_7:=n454_
 have O_d_8:=n455_
 have O_t_8:=n456_
 have O_c_8:=n457_
 have O_m_8:=n458_
 have HB:=n459_
 have HS:=n460_
 clear n440_ n441_ n442_ n443_ n444_ n445_ n446_ n447_ n448_ n449_ n450_ n451_ n452_ n453_ n454_ n455_ n456_ n457_ n458_ n459_ n460_
 obtain ⟨w42,hw461_⟩ : ∃ w_ : World,set3 w41 g25 (.int .u64 off) (.slice M8 m3.length n8) (.bool cf) = w_:=⟨_,rfl⟩
 have n462_:=Aside0.mk (blk3 hw461_ BK_g25.out)
 have n463_:=Aside0.mk (far3 hw461_ NB_g11_g25 BK_g11.out)
 have n464_:=Aside0.mk (far3 hw461_ NB_g14_g25 BK_g14.out)
 have n465_:=Aside0.mk (far3 hw461_ NB_g22_g25 BK_g22.out)
 have n466_:=Aside0.mk (far3 hw461_ NB_g24_g25 BK_g24.out)
 have n467_:=Aside0.mk (V3o hw461_ (fun k_ hk_ => by have h_:=HCH.out;omega) O_y.out)
 have n468_:=Aside0.mk (V3o hw461_ (fun k_ hk_ => by have h_:=HCH.out;omega) O_d_3.out)
 have n469_:=Aside0.mk (V3o hw461_ (fun k_ hk_ => by have h_:=HCH.out;omega) O_t_3.out)
 have n470_:=Aside0.mk (V3o hw461_ (fun k_ hk_ => by have h_:=HCH.out;omega) O_c_3.out)
 have n471_:=Aside0.mk (V3o hw461_ (fun k_ hk_ => by have h_:=HCH.out;omega) O_d_4.out)
 have n472_:=Aside0.mk (V3o hw461_ (fun k_ hk_ => by have h_:=HCH.out;omega) O_t_4.out)
 have n473_:=Aside0.mk (V3o hw461_ (fun k_ hk_ => by have h_:=HCH.out;omega) O_c_4.out)
 have n474_:=Aside0.mk (V3o hw461_ (fun k_ hk_ => by have h_:=HCH.out;omega) O_d_7.out)
 have n475_:=Aside0.mk (V3o hw461_ (fun k_ hk_ => by have h_:=HCH.out;omega) O_t_7.out)
 have n476_:=Aside0.mk (V3o hw461_ (fun k_ hk_ => by have h_:=HCH.out;omega) O_c_7.out)
 have n477_:=Aside0.mk (V3o hw461_ (fun k_ hk_ => by have h_:=HCH.out;omega) O_d_8.out)
 have n478_:=Aside0.mk (V3o hw461_ (fun k_ hk_ => by have h_:=HCH.out;omega) O_t_8.out)
 have n479_:=Aside0.mk (V3o hw461_ (fun k_ hk_ => by have h_:=HCH.out;omega) O_c_8.out)
 have n480_:=Aside0.mk (V3o hw461_ (fun k_ hk_ => by have h_:=HCH.out;omega) O_m_8.out)
 have n481_:=Aside0.mk (below3 hw461_ GE_g25.out HB.out)
 have n482_:=Aside0.mk ((size3 hw461_).symm ▸ HS.out)
 rw [set3_fold,hw461_]
 clear hw461_ BK_g25 BK_g11 BK_g14 BK_g22 BK_g24 O_y O_d_3 O_t_3 O_c_3 O_d_4 O_t_4 O_c_4 O_d_7 O_t_7 O_c_7 O_d_8 O_t_8 O_c_8 O_m_8 HB HS
 have BK_g25:=n462_
 have BK_g11:=n463_
 have BK_g14:=n464_
 have BK_g22:=n465_
 have BK_g24:=n466_
 have O_y:=n467_
 have O_d_3:=n468_
 have O_t_3:=n469_
 have O_c_3:=n470_
 have O_d_4:=n471_
 have O_t_4:=n472_
 have O_c_4:=n473_
 have O_d_7:=n474_
 have O_t_7:=n475_
 have O_c_7:=n476_
 have O_d_8:=n477_
 have O_t_8:=n478_
 have O_c_8:=n479_
 have O_m_8:=n480_
 have HB:=n481_
 have HS:=n482_
 clear n462_ n463_ n464_ n465_ n466_ n467_ n468_ n469_ n470_ n471_ n472_ n473_ n474_ n475_ n476_ n477_ n478_ n479_ n480_ n481_ n482_
 have hx_g11_0 : w42.cell? ⟨g11,0,none⟩ = some (.int .u64 b3):=(blk_cell BK_g11.out 0).trans rfl
 have hf_g11_0:=blk_frozen BK_g11.out 0
 have hx_g11_1 : w42.cell? ⟨g11,1,none⟩ = some (.slice A3 d3.length p_3):=(blk_cell BK_g11.out 1).trans rfl
 have hf_g11_1:=blk_frozen BK_g11.out 1
 have hx_g11_2 : w42.cell? ⟨g11,2,none⟩ = some (.slice B3 t3.length q_3):=(blk_cell BK_g11.out 2).trans rfl
 have hf_g11_2:=blk_frozen BK_g11.out 2
 have hx_g11_3 : w42.cell? ⟨g11,3,none⟩ = some (.slice C3 c3.length r_3):=(blk_cell BK_g11.out 3).trans rfl
 have hf_g11_3:=blk_frozen BK_g11.out 3
 have hx_g11_4 : w42.cell? ⟨g11,4,none⟩ = some (.bool f3):=(blk_cell BK_g11.out 4).trans rfl
 have hf_g11_4:=blk_frozen BK_g11.out 4
 have hx_g11_5 : w42.cell? ⟨g11,5,none⟩ = some (.bool g3_):=(blk_cell BK_g11.out 5).trans rfl
 have hf_g11_5:=blk_frozen BK_g11.out 5
 have hx_g11_6 : w42.cell? ⟨g11,6,none⟩ = some (.bool h3):=(blk_cell BK_g11.out 6).trans rfl
 have hf_g11_6:=blk_frozen BK_g11.out 6
 have hx_g24_0 : w42.cell? ⟨g24,0,none⟩ = some (.int .u64 b3):=(blk_cell BK_g24.out 0).trans rfl
 have hf_g24_0:=blk_frozen BK_g24.out 0
 have hx_g24_1 : w42.cell? ⟨g24,1,none⟩ = some (.slice A8 d3.length p_8):=(blk_cell BK_g24.out 1).trans rfl
 have hf_g24_1:=blk_frozen BK_g24.out 1
 have hx_g24_2 : w42.cell? ⟨g24,2,none⟩ = some (.slice B8 t3.length q_8):=(blk_cell BK_g24.out 2).trans rfl
 have hf_g24_2:=blk_frozen BK_g24.out 2
 have hx_g24_3 : w42.cell? ⟨g24,3,none⟩ = some (.slice C8 c3.length r_8):=(blk_cell BK_g24.out 3).trans rfl
 have hf_g24_3:=blk_frozen BK_g24.out 3
 have hx_g24_4 : w42.cell? ⟨g24,4,none⟩ = some (.bool f3):=(blk_cell BK_g24.out 4).trans rfl
 have hf_g24_4:=blk_frozen BK_g24.out 4
 have hx_g24_5 : w42.cell? ⟨g24,5,none⟩ = some (.bool g3_):=(blk_cell BK_g24.out 5).trans rfl
 have hf_g24_5:=blk_frozen BK_g24.out 5
 have hx_g24_6 : w42.cell? ⟨g24,6,none⟩ = some (.bool h3):=(blk_cell BK_g24.out 6).trans rfl
 have hf_g24_6:=blk_frozen BK_g24.out 6
 clear O_d_7 O_t_7 O_c_7
 clear BK_g22
 go_upto_region 27 with (first
  | ((with_reducible refine gate_callee (f:=13) rfl ?_);refine goesL_ (some 124) rfl rfl Try.func13 (by kernel_rfl) rfl #[.agg #[.int .u64 b3,.slice A3 d3.length p_3,.slice B3 t3.length q_3,.slice C3 c3.length r_3,.bool f3,.bool g3_,.bool h3],.agg #[.int .u64 b3,.slice A8 d3.length p_8,.slice B8 t3.length q_8,.slice C8 c3.length r_8,.bool f3,.bool g3_,.bool h3]] rfl (by (try simp only [List.map_toArray,List.map_cons,List.map_nil]);first | done | rfl) ?_;refine (wigwagref18_Same.calls k b3 _ _ d3 _ _ t3 _ _ c3 f3 g3_ h3 b3 _ _ d3 _ _ t3 _ _ c3 f3 g3_ h3 true _ (Kd.V_reads' O_d_3.out).2.2 (Kd.V_reads' O_d_3.out).2.1 (Kd.V_reads' O_t_3.out).2.2 (Kd.V_reads' O_t_3.out).2.1 (Kd.V_reads' O_c_3.out).2.2 (Kd.V_reads' O_c_3.out).2.1 (Kd.V_reads' O_d_8.out).2.2 (Kd.V_reads' O_d_8.out).2.1 (Kd.V_reads' O_t_8.out).2.2 (Kd.V_reads' O_t_8.out).2.1 (Kd.V_reads' O_c_8.out).2.2 (Kd.V_reads' O_c_8.out).2.1 P7.out).mono ?_;rintro e_ w43 ⟨rfl,hb⟩;refine ⟨_,rfl,?_⟩;clear hx_g11_0 hf_g11_0 hx_g11_1 hf_g11_1 hx_g11_2 hf_g11_2 hx_g11_3 hf_g11_3 hx_g11_4 hf_g11_4 hx_g11_5 hf_g11_5 hx_g11_6 hf_g11_6 hx_g24_0 hf_g24_0 hx_g24_1 hf_g24_1 hx_g24_2 hf_g24_2 hx_g24_3 hf_g24_3 hx_g24_4 hf_g24_4 hx_g24_5 hf_g24_5 hx_g24_6 hf_g24_6;have n483_:=Aside0.mk (below_step HB.out hb);have n484_:=Aside0.mk ((Nat.lt_of_lt_of_le (show _ < _ from HS.out) hb.size : g25 < w43.heap.size));have n485_:=Aside0.mk (blk_below BK_g11.out hb);have n486_:=Aside0.mk (blk_below BK_g14.out hb);have n487_:=Aside0.mk (blk_below BK_g24.out hb);have n488_:=Aside0.mk (blk_below BK_g25.out hb);have n489_:=Aside0.mk (Kd.V_below O_y.out hb);have n490_:=Aside0.mk (Kd.V_below O_d_3.out hb);have n491_:=Aside0.mk (Kd.V_below O_t_3.out hb);have n492_:=Aside0.mk (Kd.V_below O_c_3.out hb);have n493_:=Aside0.mk (Kd.V_below O_d_4.out hb);have n494_:=Aside0.mk (Kd.V_below O_t_4.out hb);have n495_:=Aside0.mk (Kd.V_below O_c_4.out hb);have n496_:=Aside0.mk (Kd.V_below O_d_8.out hb);have n497_:=Aside0.mk (Kd.V_below O_t_8.out hb);have n498_:=Aside0.mk (Kd.V_below O_c_8.out hb);have n499_:=Aside0.mk (Kd.V_below O_m_8.out hb);clear HB HS BK_g11 BK_g14 BK_g24 BK_g25 O_y O_d_3 O_t_3 O_c_3 O_d_4 O_t_4 O_c_4 O_d_8 O_t_8 O_c_8 O_m_8;have HB:=n483_;have HS:=n484_;have BK_g11:=n485_;have BK_g14:=n486_;have BK_g24:=n487_;have BK_g25:=n488_;have O_y:=n489_;have O_d_3:=n490_;have O_t_3:=n491_;have O_c_3:=n492_;have O_d_4:=n493_;have O_t_4:=n494_;have O_c_4:=n495_;have O_d_8:=n496_;have O_t_8:=n497_;have O_c_8:=n498_;have O_m_8:=n499_;clear n483_ n484_ n485_ n486_ n487_ n488_ n489_ n490_ n491_ n492_ n493_ n494_ n495_ n496_ n497_ n498_ n499_;clear hb))
 clear O_d_3 O_t_3 O_c_3
 have n500_:=Aside0.mk (below_drew1 HB.out)
 have n501_:=Aside0.mk ((show g25 < w43.drew.heap.size from HS.out))
 have n502_:=Aside0.mk (blk_drew BK_g11.out)
 have n503_:=Aside0.mk (blk_drew BK_g14.out)
 have n504_:=Aside0.mk (blk_drew BK_g24.out)
 have n505_:=Aside0.mk (blk_drew BK_g25.out)
 have n506_:=Aside0.mk (Kd.V_drew O_y.out)
 have n507_:=Aside0.mk (Kd.V_drew O_d_4.out)
 have n508_:=Aside0.mk (Kd.V_drew O_t_4.out)
 have n509_:=Aside0.mk (Kd.V_drew O_c_4.out)
 have n510_:=Aside0.mk (Kd.V_drew O_d_8.out)
 have n511_:=Aside0.mk (Kd.V_drew O_t_8.out)
 have n512_:=Aside0.mk (Kd.V_drew O_c_8.out)
 have n513_:=Aside0.mk (Kd.V_drew O_m_8.out)
 clear HB HS BK_g11 BK_g14 BK_g24 BK_g25 O_y O_d_4 O_t_4 O_c_4 O_d_8 O_t_8 O_c_8 O_m_8
 have HB:=n500_
 have HS:=n501_
 have BK_g11:=n502_
 have BK_g14:=n503_
 have BK_g24:=n504_
 have BK_g25:=n505_
 have O_y:=n506_
 have O_d_4:=n507_
 have O_t_4:=n508_
 have O_c_4:=n509_
 have O_d_8:=n510_
 have O_t_8:=n511_
 have O_c_8:=n512_
 have O_m_8:=n513_
 clear n500_ n501_ n502_ n503_ n504_ n505_ n506_ n507_ n508_ n509_ n510_ n511_ n512_ n513_
 (try simp only [Act.put,List.setIfInBounds_toArray,List.set_cons_zero,List.set_cons_succ])
 refine start_ (n:=6) (S:=fun w' => w'.cell? ⟨g14,0,none⟩ = some (.int .u64 b4) ∧ w'.cell? ⟨g14,1,none⟩ = some (.slice A4 d4.length p_4) ∧ w'.cell? ⟨g14,2,none⟩ = some (.slice B4 t4.length q_4) ∧ w'.cell? ⟨g14,3,none⟩ = some (.slice C4 c4.length r_4) ∧ w'.cell? ⟨g14,4,none⟩ = some (.bool f4) ∧ w'.cell? ⟨g14,5,none⟩ = some (.bool g4_) ∧ w'.cell? ⟨g14,6,none⟩ = some (.bool h4) ∧ w'.cell? ⟨g24,0,none⟩ = some (.int .u64 b3) ∧ w'.cell? ⟨g24,1,none⟩ = some (.slice A8 d3.length p_8) ∧ w'.cell? ⟨g24,2,none⟩ = some (.slice B8 t3.length q_8) ∧ w'.cell? ⟨g24,3,none⟩ = some (.slice C8 c3.length r_8) ∧ w'.cell? ⟨g24,4,none⟩ = some (.bool f3) ∧ w'.cell? ⟨g24,5,none⟩ = some (.bool g3_) ∧ w'.cell? ⟨g24,6,none⟩ = some (.bool h3) ∧ w'.cell? ⟨g25,0,none⟩ = some (.int .u64 off) ∧ w'.cell? ⟨g25,1,none⟩ = some (.slice M8 m3.length n8) ∧ w'.cell? ⟨g25,2,none⟩ = some (.bool cf)) (ds:=[]) #[false,false,false,false,false,false] (by kernel_rfl) rfl rfl ⟨(blk_cell BK_g14.out 0).trans rfl,(blk_cell BK_g14.out 1).trans rfl,(blk_cell BK_g14.out 2).trans rfl,(blk_cell BK_g14.out 3).trans rfl,(blk_cell BK_g14.out 4).trans rfl,(blk_cell BK_g14.out 5).trans rfl,(blk_cell BK_g14.out 6).trans rfl,(blk_cell BK_g24.out 0).trans rfl,(blk_cell BK_g24.out 1).trans rfl,(blk_cell BK_g24.out 2).trans rfl,(blk_cell BK_g24.out 3).trans rfl,(blk_cell BK_g24.out 4).trans rfl,(blk_cell BK_g24.out 5).trans rfl,(blk_cell BK_g24.out 6).trans rfl,(blk_cell BK_g25.out 0).trans rfl,(blk_cell BK_g25.out 1).trans rfl,(blk_cell BK_g25.out 2).trans rfl⟩ (fun hHeld => ?_)
 generalize w43.drew = w44 at HB HS BK_g11 BK_g14 BK_g24 BK_g25 O_y O_d_4 O_t_4 O_c_4 O_d_8 O_t_8 O_c_8 O_m_8 hHeld ⊢
 refine take_ (i:=0) (N:=some 125) (v:=?_) (a':=?_) #[true,false,false,false,false,false] rfl rfl (by kernel_rfl) (fun _ _ _ h => h) (Or.inl ⟨by rfl,?_⟩) hHeld ?_ ?_
 rotate_left
 ·rintro w' ⟨s0,s1,s2,s3,s4,s5,s6,s7,s8,s9,s10,s11,s12,s13,s14,s15,s16⟩
  go_simp
  with_reducible rfl
 rotate_left
 ·simp only [Act.put,List.setIfInBounds_toArray,List.set_cons_zero,List.set_cons_succ,i64_w,i32_w]
  rfl
 refine take_ (i:=1) (N:=some 126) (v:=?_) (a':=?_) #[true,true,false,false,false,false] rfl rfl (by kernel_rfl) (fun _ _ _ h => h) (Or.inl ⟨by rfl,?_⟩) hHeld ?_ ?_
 rotate_left
 ·rintro w' ⟨s0,s1,s2,s3,s4,s5,s6,s7,s8,s9,s10,s11,s12,s13,s14,s15,s16⟩
  go_simp
  with_reducible rfl
 rotate_left
 ·simp only [Act.put,List.setIfInBounds_toArray,List.set_cons_zero,List.set_cons_succ,i64_w,i32_w]
  rfl
 refine take_ (i:=2) (N:=some 127) (v:=?_) (a':=?_) #[true,true,true,false,false,false] rfl rfl (by kernel_rfl) (fun _ _ _ h => h) (Or.inl ⟨by rfl,?_⟩) hHeld ?_ ?_
 rotate_left
 ·rintro w' ⟨s0,s1,s2,s3,s4,s5,s6,s7,s8,s9,s10,s11,s12,s13,s14,s15,s16⟩
  go_simp
  with_reducible rfl
 rotate_left
 ·simp only [Act.put,List.setIfInBounds_toArray,List.set_cons_zero,List.set_cons_succ,i64_w,i32_w]
  rfl
 refine one_ (i:=3) (N:=some 128) #[true,true,true,true,false,false] rfl rfl (by kernel_rfl) (by decide) (fun K hK => ?_)
 refine goes_ Try.func11 (by kernel_rfl) rfl #[.agg #[.int .u64 b3,.slice A8 d3.length p_8,.slice B8 t3.length q_8,.slice C8 c3.length r_8,.bool f3,.bool g3_,.bool h3],.agg #[.int .u64 off,.slice M8 m3.length n8,.bool cf]] (by rfl) rfl rfl (by (try simp only [List.map_toArray,List.map_cons,List.map_nil]);first | done | rfl) ?_
 refine (supply_Came.calls k b3 _ _ d3 _ _ t3 _ _ c3 f3 g3_ h3 off _ _ m3 cf _ _ _ _ _ _ _ _ (Kd.V_reads' O_d_8.out).2.2 (Kd.V_reads' O_d_8.out).2.1 (Kd.V_reads' O_t_8.out).2.2 (Kd.V_reads' O_t_8.out).2.1 (Kd.V_reads' O_c_8.out).2.2 (Kd.V_reads' O_c_8.out).2.1 (Kd.V_reads' O_m_8.out).2.2 (Kd.V_reads' O_m_8.out).2.1 P4.out).mono ?_
 rintro e_ w45 ⟨u1,u2,u3,rfl,ho1,ho2,ho3,hb⟩
 refine ⟨_,rfl,?_⟩
 obtain ⟨p9,hp9⟩ : ∃ n_ : Nat,n_ = w44.heap.size:=⟨_,rfl⟩
 obtain ⟨q9,hq9⟩ : ∃ n_ : Nat,n_ = w45.heap.size:=⟨_,rfl⟩
 replace HCH:=Aside0.mk (And.intro HCH.out (show g25 < p9 ∧ p9 ≤ q9 by have h_:=HS.out;have h2_:=hb.size;omega))
 have O_d_9:=Aside0.mk (Kd.V_mono (Kd.V_bound ho1) (ok':=fun k_ => p9 ≤ k_ ∧ k_ < q9) (fun k_ hk_ => ⟨by rw [hp9];exact hk_.1,by rw [hq9];exact hk_.2⟩))
 have O_t_9:=Aside0.mk (Kd.V_mono (Kd.V_bound ho2) (ok':=fun k_ => p9 ≤ k_ ∧ k_ < q9) (fun k_ hk_ => ⟨by rw [hp9];exact hk_.1,by rw [hq9];exact hk_.2⟩))
 have O_c_9:=Aside0.mk (Kd.V_mono (Kd.V_bound ho3) (ok':=fun k_ => p9 ≤ k_ ∧ k_ < q9) (fun k_ hk_ => ⟨by rw [hp9];exact hk_.1,by rw [hq9];exact hk_.2⟩))
 clear ho1 ho2 ho3
 have n514_:=Aside0.mk (below_step HB.out hb)
 have n515_:=Aside0.mk ((Nat.lt_of_lt_of_le (show _ < _ from HS.out) hb.size : g25 < w45.heap.size))
 have n516_:=Aside0.mk (blk_below BK_g11.out hb)
 have n517_:=Aside0.mk (blk_below BK_g14.out hb)
 have n518_:=Aside0.mk (blk_below BK_g24.out hb)
 have n519_:=Aside0.mk (blk_below BK_g25.out hb)
 have n520_:=Aside0.mk (Kd.V_below O_y.out hb)
 have n521_:=Aside0.mk (Kd.V_below O_d_4.out hb)
 have n522_:=Aside0.mk (Kd.V_below O_t_4.out hb)
 have n523_:=Aside0.mk (Kd.V_below O_c_4.out hb)
 have n524_:=Aside0.mk (Kd.V_below O_d_8.out hb)
 have n525_:=Aside0.mk (Kd.V_below O_t_8.out hb)
 have n526_:=Aside0.mk (Kd.V_below O_c_8.out hb)
 have n527_:=Aside0.mk (Kd.V_below O_m_8.out hb)
 clear HB HS BK_g11 BK_g14 BK_g24 BK_g25 O_y O_d_4 O_t_4 O_c_4 O_d_8 O_t_8 O_c_8 O_m_8
 have HB:=n514_
 have HS:=n515_
 have BK_g11:=n516_
 have BK_g14:=n517_
 have BK_g24:=n518_
 have BK_g25:=n519_
 have O_y:=n520_
 have O_d_4:=n521_
 have O_t_4:=n522_
 have O_c_4:=n523_
 have O_d_8:=n524_
 have O_t_8:=n525_
 have O_c_8:=n526_
 have O_m_8:=n527_
 clear n514_ n515_ n516_ n517_ n518_ n519_ n520_ n521_ n522_ n523_ n524_ n525_ n526_ n527_
 replace HS:=Aside0.mk (show q9 ≤ w45.heap.size by rw [hq9];exact Nat.le_refl _)
 clear hb hp9 hq9
 obtain ⟨A9,p_9,eo⟩:=Kd.V_slice O_d_9.out
 subst eo
 obtain ⟨B9,q_9,eo⟩:=Kd.V_slice O_t_9.out
 subst eo
 obtain ⟨C9,r_9,eo⟩:=Kd.V_slice O_c_9.out
 subst eo
 refine hK.out _ _ ⟨(blk_cell BK_g14.out 0).trans rfl,(blk_cell BK_g14.out 1).trans rfl,(blk_cell BK_g14.out 2).trans rfl,(blk_cell BK_g14.out 3).trans rfl,(blk_cell BK_g14.out 4).trans rfl,(blk_cell BK_g14.out 5).trans rfl,(blk_cell BK_g14.out 6).trans rfl,(blk_cell BK_g24.out 0).trans rfl,(blk_cell BK_g24.out 1).trans rfl,(blk_cell BK_g24.out 2).trans rfl,(blk_cell BK_g24.out 3).trans rfl,(blk_cell BK_g24.out 4).trans rfl,(blk_cell BK_g24.out 5).trans rfl,(blk_cell BK_g24.out 6).trans rfl,(blk_cell BK_g25.out 0).trans rfl,(blk_cell BK_g25.out 1).trans rfl,(blk_cell BK_g25.out 2).trans rfl⟩ (fun hHeld => ?_)
 clear hK K
 refine norm_ (a':=?_) ?_ ?_
 rotate_left
 ·show Act.put _ (some 128) _ = _
  simp only [Act.put,List.setIfInBounds_toArray,List.set_cons_zero,List.set_cons_succ,i64_w,i32_w]
  rfl
 refine one_ (i:=4) (N:=some 129) #[true,true,true,true,true,false] rfl rfl (by kernel_rfl) (by decide) (fun K hK => ?_)
 refine goes_ Try.func13 (by kernel_rfl) rfl #[.agg #[.int .u64 b4,.slice A4 d4.length p_4,.slice B4 t4.length q_4,.slice C4 c4.length r_4,.bool f4,.bool g4_,.bool h4],.agg #[.int .u64 b4,.slice A9 d4.length p_9,.slice B9 t4.length q_9,.slice C9 c4.length r_9,.bool f4,.bool g4_,.bool h4]] (by rfl) rfl rfl (by (try simp only [List.map_toArray,List.map_cons,List.map_nil]);first | done | rfl) ?_
 refine (wigwagref18_Same.calls k b4 _ _ d4 _ _ t4 _ _ c4 f4 g4_ h4 b4 _ _ d4 _ _ t4 _ _ c4 f4 g4_ h4 true _ (Kd.V_reads' O_d_4.out).2.2 (Kd.V_reads' O_d_4.out).2.1 (Kd.V_reads' O_t_4.out).2.2 (Kd.V_reads' O_t_4.out).2.1 (Kd.V_reads' O_c_4.out).2.2 (Kd.V_reads' O_c_4.out).2.1 (Kd.V_reads' O_d_9.out).2.2 (Kd.V_reads' O_d_9.out).2.1 (Kd.V_reads' O_t_9.out).2.2 (Kd.V_reads' O_t_9.out).2.1 (Kd.V_reads' O_c_9.out).2.2 (Kd.V_reads' O_c_9.out).2.1 P8.out).mono ?_
 rintro e_ w46 ⟨rfl,hb⟩
 refine ⟨_,rfl,?_⟩
 have n528_:=Aside0.mk (below_step HB.out hb)
 have n529_:=Aside0.mk ((Nat.le_trans (show _ ≤ _ from HS.out) hb.size : q9 ≤ w46.heap.size))
 have n530_:=Aside0.mk (blk_below BK_g11.out hb)
 have n531_:=Aside0.mk (blk_below BK_g14.out hb)
 have n532_:=Aside0.mk (blk_below BK_g24.out hb)
 have n533_:=Aside0.mk (blk_below BK_g25.out hb)
 have n534_:=Aside0.mk (Kd.V_below O_y.out hb)
 have n535_:=Aside0.mk (Kd.V_below O_d_4.out hb)
 have n536_:=Aside0.mk (Kd.V_below O_t_4.out hb)
 have n537_:=Aside0.mk (Kd.V_below O_c_4.out hb)
 have n538_:=Aside0.mk (Kd.V_below O_d_8.out hb)
 have n539_:=Aside0.mk (Kd.V_below O_t_8.out hb)
 have n540_:=Aside0.mk (Kd.V_below O_c_8.out hb)
 have n541_:=Aside0.mk (Kd.V_below O_m_8.out hb)
 have n542_:=Aside0.mk (Kd.V_below O_d_9.out hb)
 have n543_:=Aside0.mk (Kd.V_below O_t_9.out hb)
 have n544_:=Aside0.mk (Kd.V_below O_c_9.out hb)
 clear HB HS BK_g11 BK_g14 BK_g24 BK_g25 O_y O_d_4 O_t_4 O_c_4 O_d_8 O_t_8 O_c_8 O_m_8 O_d_9 O_t_9 O_c_9
 have HB:=n528_
 have HS:=n529_
 have BK_g11:=n530_
 have BK_g14:=n531_
 have BK_g24:=n532_
 have BK_g25:=n533_
 have O_y:=n534_
 have O_d_4:=n535_
 have O_t_4:=n536_
 have O_c_4:=n537_
 have O_d_8:=n538_
 have O_t_8:=n539_
 have O_c_8:=n540_
 have O_m_8:=n541_
 have O_d_9:=n542_
 have O_t_9:=n543_
 have O_c_9:=n544_
 clear n528_ n529_ n530_ n531_ n532_ n533_ n534_ n535_ n536_ n537_ n538_ n539_ n540_ n541_ n542_ n543_ n544_
 clear hb
 refine hK.out _ _ ⟨(blk_cell BK_g14.out 0).trans rfl,(blk_cell BK_g14.out 1).trans rfl,(blk_cell BK_g14.out 2).trans rfl,(blk_cell BK_g14.out 3).trans rfl,(blk_cell BK_g14.out 4).trans rfl,(blk_cell BK_g14.out 5).trans rfl,(blk_cell BK_g14.out 6).trans rfl,(blk_cell BK_g24.out 0).trans rfl,(blk_cell BK_g24.out 1).trans rfl,(blk_cell BK_g24.out 2).trans rfl,(blk_cell BK_g24.out 3).trans rfl,(blk_cell BK_g24.out 4).trans rfl,(blk_cell BK_g24.out 5).trans rfl,(blk_cell BK_g24.out 6).trans rfl,(blk_cell BK_g25.out 0).trans rfl,(blk_cell BK_g25.out 1).trans rfl,(blk_cell BK_g25.out 2).trans rfl⟩ (fun hHeld => ?_)
 clear hK K
 refine norm_ (a':=?_) ?_ ?_
 rotate_left
 ·show Act.put _ (some 129) _ = _
  simp only [Act.put,List.setIfInBounds_toArray,List.set_cons_zero,List.set_cons_succ,i64_w,i32_w]
  rfl
 refine pure_ (i:=5) (N:=some 28) (v:=?_) (a':=?_) #[true,true,true,true,true,true] rfl rfl (by kernel_rfl) (fun _ _ _ h => h) (Or.inl ⟨by rfl,?_⟩) ?_ ?_
 rotate_left
 ·intro w'
  go_simp
  with_reducible rfl
 rotate_left
 ·simp only [Act.put,List.setIfInBounds_toArray,List.set_cons_zero,List.set_cons_succ,i64_w,i32_w]
  rfl
 refine done_ (by kernel_rfl) ?_
 have hcv1:=Kd.C_string (P:=Try.prog) (A:=Ay) (c:=cy) Try.underlying22 Try.underlying5 Try.underlying9 ((Kd.V_reads' O_y.out).2.2)
 have hcv2:=Kd.C_string (P:=Try.prog) (A:=A0) (c:=c0) Try.underlying22 Try.underlying5 Try.underlying9 (Kd.C_below HR0.out HB.out)
 have sq : ((strOfNums l0).toList == (strOfNums l0).toList) = true:=beq_self_eq_true _
 go_wp2
 go_ret
 exact ⟨rfl,HB.out⟩

end Go.Proofs.Ytadhkamocbhbmaa.P
