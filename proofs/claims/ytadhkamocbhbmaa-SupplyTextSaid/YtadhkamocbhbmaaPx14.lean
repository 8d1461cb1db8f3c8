-- Printed for this claim by xprint.py of this session: contracts of this session's own stand in for what the print does not take
import Derived.Test.YtadhkamocbhbmaaPx0
import Derived.Test.YtadhkamocbhbmaaPx3
import Derived.Test.YtadhkamocbhbmaaPx4
import Derived.Test.YtadhkamocbhbmaaPx10
import Derived.Test.YtadhkamocbhbmaaPx13
namespace Go.Proofs.Ytadhkamocbhbmaa.P
open Go.RowKit Go.Proofs.YtadhkamocbhbmaaW.PrintWords Go.Proofs.YtadhkamocbhbmaaW.PrintLast Go.Proofs.YtadhkamocbhbmaaW.PrintMore
attribute [local go_sem] max2_int min2_int max_two min_two max_three min_three max_four min_four   -- for this text's walks alone
set_option linter.unusedVariables false
set_option linter.unusedSimpArgs false

-- NOT PRINTED: function 19 (supply_changed_27)

/-! ### supply_Lost: function 12 -/
/-- Behind a chunk that was lost: of its places those that did not come are to be sent again. -/
def supply_Lost.f (k : Nat) (a0_0 : Int) (l0_1 : List Int) (l0_2 : List S37) (l0_3 : List S37) (a0_4 : Bool) (a0_5 : Bool) (a0_6 : Bool) (a1_0 : Int) (l1_1 : List Int) (a1_2 : Bool) : Option (Int × List Int × List S37 × List S37 × Bool × Bool × Bool) :=
 if l0_1.length < 1000000000 ∧ l0_2.length < 1000000000 ∧ l0_3.length < 1000000000 then (span_Add.f k [] (supply_places.f a0_0 a1_0 (IntKind.u64.wrap (a0_0 + IntKind.u64.wrap (l0_1.length : Int))) l1_1.length).1 (supply_places.f a0_0 a1_0 (IntKind.u64.wrap (a0_0 + IntKind.u64.wrap (l0_1.length : Int))) l1_1.length).2).bind fun x0 => (supply_cuts x0 l0_3).bind fun x1 => if x1.length < 1000000000 then (supply_adds k l0_2 x1).bind fun x2 => some (a0_0,l0_1,x2,l0_3,a0_4,(if a0_5 then true else (a1_2 && a0_4 && !a0_6)),a0_6) else none else none
theorem supply_adds.mono (k : Nat) : ∀ (l t : List S37),LeO (supply_adds k t l) (supply_adds (k + 1) t l)
 | [],t => LeO.refl _
 | x :: l,t => by
  unfold supply_adds
  exact LeO.bind (span_Add.mono _ _ _ _) (fun _ => supply_adds.mono k l _)
theorem supply_Lost.mono : ∀ a0 a1 a2 a3 a4 a5 a6 a7 a8 a9 k,LeO (supply_Lost.f k a0 a1 a2 a3 a4 a5 a6 a7 a8 a9) (supply_Lost.f (k + 1) a0 a1 a2 a3 a4 a5 a6 a7 a8 a9):=by
 intro a0 a1 a2 a3 a4 a5 a6 a7 a8 a9 k
 unfold supply_Lost.f
 exact LeO.ite (LeO.bind (span_Add.mono _ _ _ _) (fun _ => LeO.bind (LeO.refl _) (fun _ => LeO.ite (LeO.bind (supply_adds.mono _ _ _) (fun _ => LeO.refl _)) (LeO.none _)))) (LeO.none _)
set_option maxHeartbeats 8000000 in
set_option maxRecDepth 100000 in
theorem supply_Lost.calls (k : Nat) (a0_0 : Int) (A0_1 : Option Addr) (c0_1 : Nat) (l0_1 : List Int) (A0_2 : Option Addr) (c0_2 : Nat) (l0_2 : List S37) (A0_3 : Option Addr) (c0_3 : Nat) (l0_3 : List S37) (a0_4 : Bool) (a0_5 : Bool) (a0_6 : Bool) (a1_0 : Int) (A1_1 : Option Addr) (c1_1 : Nat) (l1_1 : List Int) (a1_2 : Bool) (r1 : Int) (r2 : List Int) (r3 : List S37) (r4 : List S37) (r5 : Bool) (r6 : Bool) (r7 : Bool) (w : World)
  (hr0_1 : Kd.C (Kd.int .u8) w A0_1 l0_1.length l0_1) (hc0_1 : l0_1.length ≤ c0_1) (hr0_2 : Kd.C k37 w A0_2 l0_2.length l0_2) (hc0_2 : l0_2.length ≤ c0_2) (hr0_3 : Kd.C k37 w A0_3 l0_3.length l0_3) (hc0_3 : l0_3.length ≤ c0_3) (hr1_1 : Kd.C (Kd.int .u8) w A1_1 l1_1.length l1_1) (hc1_1 : l1_1.length ≤ c1_1) (h : supply_Lost.f k a0_0 l0_1 l0_2 l0_3 a0_4 a0_5 a0_6 a1_0 l1_1 a1_2 = some (r1,r2,r3,r4,r5,r6,r7)) :
  Calls Try.prog 12 #[.agg #[.int .u64 a0_0,.slice A0_1 l0_1.length c0_1,.slice A0_2 l0_2.length c0_2,.slice A0_3 l0_3.length c0_3,.bool a0_4,.bool a0_5,.bool a0_6],.agg #[.int .u64 a1_0,.slice A1_1 l1_1.length c1_1,.bool a1_2]] w fun e w' => ∃ v1_ v2_ v3_ : Value,e = .returned (.agg #[.int .u64 r1,v1_,v2_,v3_,.bool r5,.bool r6,.bool r7]) ∧ Kd.R (Kd.int .u8) 5 w' w.heap.size (fun _ => True) v1_ r2 ∧ Kd.R k37 37 w' w.heap.size (fun _ => True) v2_ r3 ∧ Kd.R k37 37 w' w.heap.size (fun _ => True) v3_ r4 ∧ Below w.heap.size w w':=by
 have HR1:=Aside0.mk hr0_1
 have HC1:=Aside0.mk hc0_1
 have HR2:=Aside0.mk hr0_2
 have HC2:=Aside0.mk hc0_2
 have HR3:=Aside0.mk hr0_3
 have HC3:=Aside0.mk hc0_3
 have HB:=Aside0.mk (Below.refl w.heap.size w)
 clear hr0_1 hc0_1 hr0_2 hc0_2 hr0_3 hc0_3
 clear hr1_1 hc1_1
 unfold supply_Lost.f at h
 by_cases hL : l0_1.length < 1000000000 ∧ l0_2.length < 1000000000 ∧ l0_3.length < 1000000000
 case neg => rw [if_neg hL] at h;cases h
 rw [if_pos hL] at h
 obtain ⟨x0,hA,h⟩:=Option.bind_eq_some_iff.mp h
 obtain ⟨x1,hC,h⟩:=Option.bind_eq_some_iff.mp h
 by_cases hM : x1.length < 1000000000
 case neg => rw [if_neg hM] at h;cases h
 rw [if_pos hM] at h
 obtain ⟨x2,hT,h⟩:=Option.bind_eq_some_iff.mp h
 simp only [Option.some.injEq,Prod.mk.injEq] at h
 obtain ⟨rfl,rfl,rfl,rfl,rfl,rfl,rfl⟩:=h
 have HL : Aside0 (l0_1.length < 1000000000 ∧ l0_2.length < 1000000000 ∧ l0_3.length < 1000000000 ∧ True):=⟨hL.1,hL.2.1,hL.2.2,trivial⟩
 have HM:=Aside0.mk hM
 have HA:=Aside0.mk hA
 have HC:=Aside0.mk hC
 have HT:=Aside0.mk hT
 clear hL hM hA hC hT
 generalize hf5 : (if a0_5 then true else (a1_2 && a0_4 && !a0_6)) = f5
 have HF5:=Aside0.mk hf5
 clear hf5
 go_enter Try.func12,Try.ntmps12
 go_upto_region 1 with (first
  | ((with_reducible refine gate_dst (N:=2) rfl ?_);refine box_event ?hg (N:=2) ?hd (cs:=#[.int .u64 a0_0,.slice A0_1 l0_1.length c0_1,.slice A0_2 l0_2.length c0_2,.slice A0_3 l0_3.length c0_3,.bool a0_4,.bool a0_5,.bool a0_6]) (t:=27) ?hr ?_;(case hd => rfl);(case hg => rfl);(case hr => first | (go_simp;done) | (go_simp;rfl));intro g2 hg w2 hbox hb;have GE_g2:=Aside0.mk (show w.heap.size ≤ g2 by rw [hg];exact HB.out.size);have n1_:=Aside0.mk (below_step HB.out hb);clear HB;have HB:=n1_;clear n1_;have BK_g2:=Aside0.mk hbox;clear hbox hb hg)
  | ((with_reducible refine gate_dst (N:=3) rfl ?_);refine box_event ?hg (N:=3) ?hd (cs:=#[.int .u64 a1_0,.slice A1_1 l1_1.length c1_1,.bool a1_2]) (t:=32) ?hr ?_;(case hd => rfl);(case hg => rfl);(case hr => first | (go_simp;done) | (go_simp;rfl));intro g3 hg w3 hbox hb;have GE_g3:=Aside0.mk (show w.heap.size ≤ g3 by rw [hg];exact HB.out.size);have NB_g2_g3 : g2 ≠ g3:=(by rw [hg];exact Nat.ne_of_lt (blk_lt BK_g2.out));have NB_g3_g2:=NB_g2_g3.symm;have n2_:=Aside0.mk (below_step HB.out hb);have n3_:=Aside0.mk (blk_below BK_g2.out hb);clear HB BK_g2;have HB:=n2_;have BK_g2:=n3_;clear n2_ n3_;have BK_g3:=Aside0.mk hbox;clear hbox hb hg)
  | ((with_reducible refine gate_dst (N:=4) rfl ?_);refine box_event ?hg (N:=4) ?hd (cs:=#[.int .u64 0,.slice none 0 0,.slice none 0 0,.slice none 0 0,.bool false,.bool false,.bool false]) (t:=27) ?hr ?_;(case hd => rfl);(case hg => rfl);(case hr => first | (go_simp;done) | (go_simp;rfl));intro g4 hg w4 hbox hb;have GE_g4:=Aside0.mk (show w.heap.size ≤ g4 by rw [hg];exact HB.out.size);have NB_g2_g4 : g2 ≠ g4:=(by rw [hg];exact Nat.ne_of_lt (blk_lt BK_g2.out));have NB_g4_g2:=NB_g2_g4.symm;have NB_g3_g4 : g3 ≠ g4:=(by rw [hg];exact Nat.ne_of_lt (blk_lt BK_g3.out));have NB_g4_g3:=NB_g3_g4.symm;have n4_:=Aside0.mk (below_step HB.out hb);have n5_:=Aside0.mk (blk_below BK_g2.out hb);have n6_:=Aside0.mk (blk_below BK_g3.out hb);clear HB BK_g2 BK_g3;have HB:=n4_;have BK_g2:=n5_;have BK_g3:=n6_;clear n4_ n5_ n6_;have BK_g4:=Aside0.mk hbox;clear hbox hb hg;obtain ⟨hx_g2_0,hf_g2_0,hx_g2_1,hf_g2_1,hx_g2_2,hf_g2_2,hx_g2_3,hf_g2_3,hx_g2_4,hf_g2_4,hx_g2_5,hf_g2_5,hx_g2_6,hf_g2_6⟩:=cells7 BK_g2.out))
 go_wp2_with fail
 refine (supply_changed.hand (fun W_ x0 y1 y2 y3 y4 y5 y6 => a0_0 = x0 ∧ a0_4 = y4 ∧ f5 = y5 ∧ a0_6 = y6 ∧ Kd.R (Kd.int .u8) 5 W_ w4.heap.size (fun _ => True) y1 l0_1 ∧ Kd.R k37 37 W_ w4.heap.size (fun _ => True) y2 x2 ∧ Kd.R k37 37 W_ w4.heap.size (fun _ => True) y3 l0_3) a0_0 _ _ l0_1 _ _ l0_2 _ _ l0_3 a0_4 a0_5 a0_6 27 _ #[.pointer (some ⟨g3,0,none⟩)] w4 (by rintro W_ g_ cs_ b0 b1 b2 b3 b4 b5 b6 x0 y1 y2 y3 y4 y5 y6 hb_ ⟨rfl,rfl,rfl,rfl,h1,h2,h3⟩;exact ⟨rfl,rfl,rfl,rfl,R_set7 h1 hb_ (ne_of rfl (by decide)),R_set7 h2 hb_ (ne_of rfl (by decide)),R_set7 h3 hb_ (ne_of rfl (by decide))⟩) Try.func27 (by kernel_rfl) rfl (Kd.C_below HR1.out HB.out) HC1.out (Kd.C_below HR2.out HB.out) HC2.out (Kd.C_below HR3.out HB.out) HC3.out HL.out.1 HL.out.2.1 HL.out.2.2.1 (fun g_ g4_ cs4_ v1_ v2_ v3_ W_ hb_ hb4_ hne_ hge_ hr1_ hr2_ hr3_ hB_ => Calls.mono (supply_Lost_1.hand g3 a1_0 A1_1 c1_1 l1_1 a1_2 _ _ _ x0 x1 x2 k a0_0 l0_1 l0_2 l0_3 v1_ v2_ v3_ a0_4 a0_5 a0_6 g_ g4_ cs4_ w4 W_ hb_ hb4_ hne_ hge_ hr1_ hr2_ hr3_ hB_ (blk_below BK_g3.out hB_) ⟨HL.out.2.2.1,HM.out⟩ rfl rfl HA.out HC.out HT.out) (by rintro e_ W2_ ⟨rfl,u2_,hb2_,hb42_,q1_,q2_,q3_,hB2_⟩;obtain ⟨X1,Y1,z1⟩:=Kd.R_slice q1_;obtain ⟨X2,Y2,z2⟩:=Kd.R_slice q2_;obtain ⟨X3,Y3,z3⟩:=Kd.R_slice q3_;subst z1 z2 z3;exact ⟨rfl,_,_,_,_,_,_,_,_,_,_,_,_,_,hb2_,hb42_,⟨rfl,rfl,HF5.out.symm,rfl,q1_,q2_,q3_⟩,hB2_⟩))).mono ?_
 rintro e_ w5 ⟨x0,B1,p1,q1,B2,p2,q2,B3,p3,q3,y4,y5,y6,rfl,⟨rfl,rfl,rfl,rfl,h1,h2,h3⟩,hb⟩
 have hsz_:=HB.out.size
 have F1:=Aside0.mk h1
 have F2:=Aside0.mk h2
 have F3:=Aside0.mk h3
 have HSZ:=Aside0.mk hsz_
 clear h1 h2 h3 hsz_
 clear hx_g2_0 hf_g2_0 hx_g2_1 hf_g2_1 hx_g2_2 hf_g2_2 hx_g2_3 hf_g2_3 hx_g2_4 hf_g2_4 hx_g2_5 hf_g2_5 hx_g2_6 hf_g2_6
 have n7_:=Aside0.mk (below_step HB.out hb)
 have n8_:=Aside0.mk (blk_below BK_g2.out hb)
 have n9_:=Aside0.mk (blk_below BK_g3.out hb)
 have n10_:=Aside0.mk (blk_below BK_g4.out hb)
 clear HB BK_g2 BK_g3 BK_g4
 have HB:=n7_
 have BK_g2:=n8_
 have BK_g3:=n9_
 have BK_g4:=n10_
 clear n7_ n8_ n9_ n10_
 clear hb
 obtain ⟨hx_g4_0,hf_g4_0,hx_g4_1,hf_g4_1,hx_g4_2,hf_g4_2,hx_g4_3,hf_g4_3,hx_g4_4,hf_g4_4,hx_g4_5,hf_g4_5,hx_g4_6,hf_g4_6⟩:=cells7 BK_g4.out
 go_wp2
 refine bodyPost_ret (results_cell_row rfl _ _ g4 27 #[.int .u64 a0_0,.slice B1 p1 q1,.slice B2 p2 q2,.slice B3 p3 q3,.bool a0_4,.bool f5,.bool a0_6] (0,0) _ rfl (blk_put7 BK_g4.out) Try.underlying27 rfl (by kernel_rfl)) rfl ?_
 exact ⟨_,_,_,rfl,Kd.R_lower (R_set7 F1.out BK_g4.out (ne_of rfl (by decide))) HSZ.out,Kd.R_lower (R_set7 F2.out BK_g4.out (ne_of rfl (by decide))) HSZ.out,Kd.R_lower (R_set7 F3.out BK_g4.out (ne_of rfl (by decide))) HSZ.out,below_set7 HB.out GE_g4.out⟩

/-! ### supply_Finish_1: function 29 -/
set_option maxHeartbeats 8000000 in
set_option maxRecDepth 100000 in
theorem supply_Finish_1.hand (b : Int) (d : List Int) (t c : List S37) (v1 v2 v3 : Value) (fin ft fc : Bool) (g g4 : Nat) (cs4 : Array Value) (w0 W : World)
  (hb : W.heap[g]? = some (.cells #[.int .u64 b,v1,v2,v3,.bool fin,.bool ft,.bool fc] 27 (0,0))) (hb4 : W.heap[g4]? = some (.cells cs4 27 (0,0))) (hne : g ≠ g4) (hge : w0.heap.size ≤ g) (r1 : Kd.R (Kd.int .u8) 5 W w0.heap.size (fun _ => True) v1 d) (r2 : Kd.R k37 37 W w0.heap.size (fun _ => True) v2 t) (r3 : Kd.R k37 37 W w0.heap.size (fun _ => True) v3 c) (hB : Below w0.heap.size w0 W) :
  Calls Try.prog 29 #[.pointer (some ⟨g,0,none⟩)] W fun e W2 => e = .returned (.tuple #[]) ∧ W2.heap[g]? = some (.cells #[.int .u64 b,v1,v2,v3,.bool true,.bool (ft || !fin),.bool fc] 27 (0,0)) ∧ W2.heap[g4]? = some (.cells cs4 27 (0,0)) ∧ Kd.R (Kd.int .u8) 5 W2 w0.heap.size (fun _ => True) v1 d ∧ Kd.R k37 37 W2 w0.heap.size (fun _ => True) v2 t ∧ Kd.R k37 37 W2 w0.heap.size (fun _ => True) v3 c ∧ Below w0.heap.size w0 W2:=by
 have BS:=Aside0.mk hb
 have B4:=Aside0.mk hb4
 have GE:=Aside0.mk hge
 have O_d:=Aside0.mk r1
 have O_t:=Aside0.mk r2
 have O_c:=Aside0.mk r3
 have HB:=Aside0.mk hB
 clear hb hb4 hge r1 r2 r3 hB
 cases fin with
 | false =>
  cases ft with
  | false =>
   obtain ⟨hx_g_0,hf_g_0,hx_g_1,hf_g_1,hx_g_2,hf_g_2,hx_g_3,hf_g_3,hx_g_4,hf_g_4,hx_g_5,hf_g_5,hx_g_6,hf_g_6⟩:=cells7 BS.out
   go_enter Try.func29,Try.ntmps29
   go_wp2
   first | go_end0 | ((try simp only [Exit.inBlock,Exit.then]);refine bodyPost_ret (results_none rfl _ _ _) rfl ?_)
   exact ⟨rfl,blk_put (blk_put (BS.out) 4 (.bool true) (cs':=#[.int .u64 b,v1,v2,v3,.bool true,.bool false,.bool fc]) rfl) 5 (.bool true) (cs':=#[.int .u64 b,v1,v2,v3,.bool true,.bool true,.bool fc]) rfl,blk_far (p:=⟨g,5,none⟩) (blk_far (p:=⟨g,4,none⟩) (B4.out) hne.symm (.bool true)) hne.symm (.bool true),Kd.R_mono (Kd.R_far (p:=⟨g,5,none⟩) (Kd.R_far (p:=⟨g,4,none⟩) (Kd.R_types O_d.out BS.out (ne_of rfl (by decide))) (fun _ hk => hk.2) (.bool true)) (fun _ hk => hk.2) (.bool true)) (fun _ _ => trivial),Kd.R_mono (Kd.R_far (p:=⟨g,5,none⟩) (Kd.R_far (p:=⟨g,4,none⟩) (Kd.R_types O_t.out BS.out (ne_of rfl (by decide))) (fun _ hk => hk.2) (.bool true)) (fun _ hk => hk.2) (.bool true)) (fun _ _ => trivial),Kd.R_mono (Kd.R_far (p:=⟨g,5,none⟩) (Kd.R_far (p:=⟨g,4,none⟩) (Kd.R_types O_c.out BS.out (ne_of rfl (by decide))) (fun _ hk => hk.2) (.bool true)) (fun _ hk => hk.2) (.bool true)) (fun _ _ => trivial),below_set (below_set (HB.out) GE.out (j:=4) (v:=.bool true)) GE.out (j:=5) (v:=.bool true)⟩
  | true =>
   obtain ⟨hx_g_0,hf_g_0,hx_g_1,hf_g_1,hx_g_2,hf_g_2,hx_g_3,hf_g_3,hx_g_4,hf_g_4,hx_g_5,hf_g_5,hx_g_6,hf_g_6⟩:=cells7 BS.out
   go_enter Try.func29,Try.ntmps29
   go_wp2
   first | go_end0 | ((try simp only [Exit.inBlock,Exit.then]);refine bodyPost_ret (results_none rfl _ _ _) rfl ?_)
   exact ⟨rfl,blk_put (blk_put (BS.out) 4 (.bool true) (cs':=#[.int .u64 b,v1,v2,v3,.bool true,.bool true,.bool fc]) rfl) 5 (.bool true) (cs':=#[.int .u64 b,v1,v2,v3,.bool true,.bool true,.bool fc]) rfl,blk_far (p:=⟨g,5,none⟩) (blk_far (p:=⟨g,4,none⟩) (B4.out) hne.symm (.bool true)) hne.symm (.bool true),Kd.R_mono (Kd.R_far (p:=⟨g,5,none⟩) (Kd.R_far (p:=⟨g,4,none⟩) (Kd.R_types O_d.out BS.out (ne_of rfl (by decide))) (fun _ hk => hk.2) (.bool true)) (fun _ hk => hk.2) (.bool true)) (fun _ _ => trivial),Kd.R_mono (Kd.R_far (p:=⟨g,5,none⟩) (Kd.R_far (p:=⟨g,4,none⟩) (Kd.R_types O_t.out BS.out (ne_of rfl (by decide))) (fun _ hk => hk.2) (.bool true)) (fun _ hk => hk.2) (.bool true)) (fun _ _ => trivial),Kd.R_mono (Kd.R_far (p:=⟨g,5,none⟩) (Kd.R_far (p:=⟨g,4,none⟩) (Kd.R_types O_c.out BS.out (ne_of rfl (by decide))) (fun _ hk => hk.2) (.bool true)) (fun _ hk => hk.2) (.bool true)) (fun _ _ => trivial),below_set (below_set (HB.out) GE.out (j:=4) (v:=.bool true)) GE.out (j:=5) (v:=.bool true)⟩
 | true =>
  cases ft with
  | false =>
   obtain ⟨hx_g_0,hf_g_0,hx_g_1,hf_g_1,hx_g_2,hf_g_2,hx_g_3,hf_g_3,hx_g_4,hf_g_4,hx_g_5,hf_g_5,hx_g_6,hf_g_6⟩:=cells7 BS.out
   go_enter Try.func29,Try.ntmps29
   go_wp2
   first | go_end0 | ((try simp only [Exit.inBlock,Exit.then]);refine bodyPost_ret (results_none rfl _ _ _) rfl ?_)
   exact ⟨rfl,blk_put (blk_put (BS.out) 4 (.bool true) (cs':=#[.int .u64 b,v1,v2,v3,.bool true,.bool false,.bool fc]) rfl) 5 (.bool false) (cs':=#[.int .u64 b,v1,v2,v3,.bool true,.bool false,.bool fc]) rfl,blk_far (p:=⟨g,5,none⟩) (blk_far (p:=⟨g,4,none⟩) (B4.out) hne.symm (.bool true)) hne.symm (.bool false),Kd.R_mono (Kd.R_far (p:=⟨g,5,none⟩) (Kd.R_far (p:=⟨g,4,none⟩) (Kd.R_types O_d.out BS.out (ne_of rfl (by decide))) (fun _ hk => hk.2) (.bool true)) (fun _ hk => hk.2) (.bool false)) (fun _ _ => trivial),Kd.R_mono (Kd.R_far (p:=⟨g,5,none⟩) (Kd.R_far (p:=⟨g,4,none⟩) (Kd.R_types O_t.out BS.out (ne_of rfl (by decide))) (fun _ hk => hk.2) (.bool true)) (fun _ hk => hk.2) (.bool false)) (fun _ _ => trivial),Kd.R_mono (Kd.R_far (p:=⟨g,5,none⟩) (Kd.R_far (p:=⟨g,4,none⟩) (Kd.R_types O_c.out BS.out (ne_of rfl (by decide))) (fun _ hk => hk.2) (.bool true)) (fun _ hk => hk.2) (.bool false)) (fun _ _ => trivial),below_set (below_set (HB.out) GE.out (j:=4) (v:=.bool true)) GE.out (j:=5) (v:=.bool false)⟩
  | true =>
   obtain ⟨hx_g_0,hf_g_0,hx_g_1,hf_g_1,hx_g_2,hf_g_2,hx_g_3,hf_g_3,hx_g_4,hf_g_4,hx_g_5,hf_g_5,hx_g_6,hf_g_6⟩:=cells7 BS.out
   go_enter Try.func29,Try.ntmps29
   go_wp2
   first | go_end0 | ((try simp only [Exit.inBlock,Exit.then]);refine bodyPost_ret (results_none rfl _ _ _) rfl ?_)
   exact ⟨rfl,blk_put (blk_put (BS.out) 4 (.bool true) (cs':=#[.int .u64 b,v1,v2,v3,.bool true,.bool true,.bool fc]) rfl) 5 (.bool true) (cs':=#[.int .u64 b,v1,v2,v3,.bool true,.bool true,.bool fc]) rfl,blk_far (p:=⟨g,5,none⟩) (blk_far (p:=⟨g,4,none⟩) (B4.out) hne.symm (.bool true)) hne.symm (.bool true),Kd.R_mono (Kd.R_far (p:=⟨g,5,none⟩) (Kd.R_far (p:=⟨g,4,none⟩) (Kd.R_types O_d.out BS.out (ne_of rfl (by decide))) (fun _ hk => hk.2) (.bool true)) (fun _ hk => hk.2) (.bool true)) (fun _ _ => trivial),Kd.R_mono (Kd.R_far (p:=⟨g,5,none⟩) (Kd.R_far (p:=⟨g,4,none⟩) (Kd.R_types O_t.out BS.out (ne_of rfl (by decide))) (fun _ hk => hk.2) (.bool true)) (fun _ hk => hk.2) (.bool true)) (fun _ _ => trivial),Kd.R_mono (Kd.R_far (p:=⟨g,5,none⟩) (Kd.R_far (p:=⟨g,4,none⟩) (Kd.R_types O_c.out BS.out (ne_of rfl (by decide))) (fun _ hk => hk.2) (.bool true)) (fun _ hk => hk.2) (.bool true)) (fun _ _ => trivial),below_set (below_set (HB.out) GE.out (j:=4) (v:=.bool true)) GE.out (j:=5) (v:=.bool true)⟩

/-! ### supply_Finish: function 14 -/
/-- A stream that ends. -/
def supply_Finish.f (a0_0 : Int) (l0_1 : List Int) (l0_2 : List S37) (l0_3 : List S37) (a0_4 : Bool) (a0_5 : Bool) (a0_6 : Bool) : Option (Int × List Int × List S37 × List S37 × Bool × Bool × Bool) :=
 if l0_1.length < 1000000000 ∧ l0_2.length < 1000000000 ∧ l0_3.length < 1000000000 then some (a0_0,l0_1,l0_2,l0_3,true,(a0_5 || !a0_4),a0_6) else none
set_option maxHeartbeats 8000000 in
set_option maxRecDepth 100000 in
theorem supply_Finish.calls (a0_0 : Int) (A0_1 : Option Addr) (c0_1 : Nat) (l0_1 : List Int) (A0_2 : Option Addr) (c0_2 : Nat) (l0_2 : List S37) (A0_3 : Option Addr) (c0_3 : Nat) (l0_3 : List S37) (a0_4 : Bool) (a0_5 : Bool) (a0_6 : Bool)  (r1 : Int) (r2 : List Int) (r3 : List S37) (r4 : List S37) (r5 : Bool) (r6 : Bool) (r7 : Bool) (w : World)
  (hr0_1 : Kd.C (Kd.int .u8) w A0_1 l0_1.length l0_1) (hc0_1 : l0_1.length ≤ c0_1) (hr0_2 : Kd.C k37 w A0_2 l0_2.length l0_2) (hc0_2 : l0_2.length ≤ c0_2) (hr0_3 : Kd.C k37 w A0_3 l0_3.length l0_3) (hc0_3 : l0_3.length ≤ c0_3)  (h : supply_Finish.f a0_0 l0_1 l0_2 l0_3 a0_4 a0_5 a0_6 = some (r1,r2,r3,r4,r5,r6,r7)) :
  Calls Try.prog 14 #[.agg #[.int .u64 a0_0,.slice A0_1 l0_1.length c0_1,.slice A0_2 l0_2.length c0_2,.slice A0_3 l0_3.length c0_3,.bool a0_4,.bool a0_5,.bool a0_6]] w fun e w' => ∃ v1_ v2_ v3_ : Value,e = .returned (.agg #[.int .u64 r1,v1_,v2_,v3_,.bool r5,.bool r6,.bool r7]) ∧ Kd.R (Kd.int .u8) 5 w' w.heap.size (fun _ => True) v1_ r2 ∧ Kd.R k37 37 w' w.heap.size (fun _ => True) v2_ r3 ∧ Kd.R k37 37 w' w.heap.size (fun _ => True) v3_ r4 ∧ Below w.heap.size w w':=by
 have HR1:=Aside0.mk hr0_1
 have HC1:=Aside0.mk hc0_1
 have HR2:=Aside0.mk hr0_2
 have HC2:=Aside0.mk hc0_2
 have HR3:=Aside0.mk hr0_3
 have HC3:=Aside0.mk hc0_3
 have HB:=Aside0.mk (Below.refl w.heap.size w)
 clear hr0_1 hc0_1 hr0_2 hc0_2 hr0_3 hc0_3
 unfold supply_Finish.f at h
 by_cases hL : l0_1.length < 1000000000 ∧ l0_2.length < 1000000000 ∧ l0_3.length < 1000000000
 case neg => rw [if_neg hL] at h;cases h
 rw [if_pos hL] at h
 simp only [Option.some.injEq,Prod.mk.injEq] at h
 obtain ⟨rfl,rfl,rfl,rfl,rfl,rfl,rfl⟩:=h
 have HL : Aside0 (l0_1.length < 1000000000 ∧ l0_2.length < 1000000000 ∧ l0_3.length < 1000000000 ∧ True):=⟨hL.1,hL.2.1,hL.2.2,trivial⟩
 clear hL
 generalize hf5 : (a0_5 || !a0_4) = f5
 have HF5:=Aside0.mk hf5
 clear hf5
 go_enter Try.func14,Try.ntmps14
 go_upto_region 1 with (first
  | ((with_reducible refine gate_dst (N:=1) rfl ?_);refine box_event ?hg (N:=1) ?hd (cs:=#[.int .u64 a0_0,.slice A0_1 l0_1.length c0_1,.slice A0_2 l0_2.length c0_2,.slice A0_3 l0_3.length c0_3,.bool a0_4,.bool a0_5,.bool a0_6]) (t:=27) ?hr ?_;(case hd => rfl);(case hg => rfl);(case hr => first | (go_simp;done) | (go_simp;rfl));intro g2 hg w2 hbox hb;have GE_g2:=Aside0.mk (show w.heap.size ≤ g2 by rw [hg];exact HB.out.size);have n1_:=Aside0.mk (below_step HB.out hb);clear HB;have HB:=n1_;clear n1_;have BK_g2:=Aside0.mk hbox;clear hbox hb hg)
  | ((with_reducible refine gate_dst (N:=2) rfl ?_);refine box_event ?hg (N:=2) ?hd (cs:=#[.int .u64 0,.slice none 0 0,.slice none 0 0,.slice none 0 0,.bool false,.bool false,.bool false]) (t:=27) ?hr ?_;(case hd => rfl);(case hg => rfl);(case hr => first | (go_simp;done) | (go_simp;rfl));intro g4 hg w4 hbox hb;have GE_g4:=Aside0.mk (show w.heap.size ≤ g4 by rw [hg];exact HB.out.size);have NB_g2_g4 : g2 ≠ g4:=(by rw [hg];exact Nat.ne_of_lt (blk_lt BK_g2.out));have NB_g4_g2:=NB_g2_g4.symm;have n2_:=Aside0.mk (below_step HB.out hb);have n3_:=Aside0.mk (blk_below BK_g2.out hb);clear HB BK_g2;have HB:=n2_;have BK_g2:=n3_;clear n2_ n3_;have BK_g4:=Aside0.mk hbox;clear hbox hb hg;obtain ⟨hx_g2_0,hf_g2_0,hx_g2_1,hf_g2_1,hx_g2_2,hf_g2_2,hx_g2_3,hf_g2_3,hx_g2_4,hf_g2_4,hx_g2_5,hf_g2_5,hx_g2_6,hf_g2_6⟩:=cells7 BK_g2.out))
 go_wp2_with fail
 refine (supply_changed.hand (fun W_ x0 y1 y2 y3 y4 y5 y6 => a0_0 = x0 ∧ true = y4 ∧ f5 = y5 ∧ a0_6 = y6 ∧ Kd.R (Kd.int .u8) 5 W_ w4.heap.size (fun _ => True) y1 l0_1 ∧ Kd.R k37 37 W_ w4.heap.size (fun _ => True) y2 l0_2 ∧ Kd.R k37 37 W_ w4.heap.size (fun _ => True) y3 l0_3) a0_0 _ _ l0_1 _ _ l0_2 _ _ l0_3 a0_4 a0_5 a0_6 29 _ #[] w4 (by rintro W_ g_ cs_ b0 b1 b2 b3 b4 b5 b6 x0 y1 y2 y3 y4 y5 y6 hb_ ⟨rfl,rfl,rfl,rfl,h1,h2,h3⟩;exact ⟨rfl,rfl,rfl,rfl,R_set7 h1 hb_ (ne_of rfl (by decide)),R_set7 h2 hb_ (ne_of rfl (by decide)),R_set7 h3 hb_ (ne_of rfl (by decide))⟩) Try.func29 (by kernel_rfl) rfl (Kd.C_below HR1.out HB.out) HC1.out (Kd.C_below HR2.out HB.out) HC2.out (Kd.C_below HR3.out HB.out) HC3.out HL.out.1 HL.out.2.1 HL.out.2.2.1 (fun g_ g4_ cs4_ v1_ v2_ v3_ W_ hb_ hb4_ hne_ hge_ hr1_ hr2_ hr3_ hB_ => Calls.mono (supply_Finish_1.hand a0_0 l0_1 l0_2 l0_3 v1_ v2_ v3_ a0_4 a0_5 a0_6 g_ g4_ cs4_ w4 W_ hb_ hb4_ hne_ hge_ hr1_ hr2_ hr3_ hB_) (by rintro e_ W2_ ⟨rfl,hb2_,hb42_,q1_,q2_,q3_,hB2_⟩;obtain ⟨X1,Y1,z1⟩:=Kd.R_slice q1_;obtain ⟨X2,Y2,z2⟩:=Kd.R_slice q2_;obtain ⟨X3,Y3,z3⟩:=Kd.R_slice q3_;subst z1 z2 z3;exact ⟨rfl,_,_,_,_,_,_,_,_,_,_,_,_,_,hb2_,hb42_,⟨rfl,rfl,HF5.out.symm,rfl,q1_,q2_,q3_⟩,hB2_⟩))).mono ?_
 rintro e_ w5 ⟨x0,B1,p1,q1,B2,p2,q2,B3,p3,q3,y4,y5,y6,rfl,⟨rfl,rfl,rfl,rfl,h1,h2,h3⟩,hb⟩
 have hsz_:=HB.out.size
 have F1:=Aside0.mk h1
 have F2:=Aside0.mk h2
 have F3:=Aside0.mk h3
 have HSZ:=Aside0.mk hsz_
 clear h1 h2 h3 hsz_
 clear hx_g2_0 hf_g2_0 hx_g2_1 hf_g2_1 hx_g2_2 hf_g2_2 hx_g2_3 hf_g2_3 hx_g2_4 hf_g2_4 hx_g2_5 hf_g2_5 hx_g2_6 hf_g2_6
 have n4_:=Aside0.mk (below_step HB.out hb)
 have n5_:=Aside0.mk (blk_below BK_g2.out hb)
 have n6_:=Aside0.mk (blk_below BK_g4.out hb)
 clear HB BK_g2 BK_g4
 have HB:=n4_
 have BK_g2:=n5_
 have BK_g4:=n6_
 clear n4_ n5_ n6_
 clear hb
 obtain ⟨hx_g4_0,hf_g4_0,hx_g4_1,hf_g4_1,hx_g4_2,hf_g4_2,hx_g4_3,hf_g4_3,hx_g4_4,hf_g4_4,hx_g4_5,hf_g4_5,hx_g4_6,hf_g4_6⟩:=cells7 BK_g4.out
 go_wp2
 refine bodyPost_ret (results_cell_row rfl _ _ g4 27 #[.int .u64 a0_0,.slice B1 p1 q1,.slice B2 p2 q2,.slice B3 p3 q3,.bool true,.bool f5,.bool a0_6] (0,0) _ rfl (blk_put7 BK_g4.out) Try.underlying27 rfl (by kernel_rfl)) rfl ?_
 exact ⟨_,_,_,rfl,Kd.R_lower (R_set7 F1.out BK_g4.out (ne_of rfl (by decide))) HSZ.out,Kd.R_lower (R_set7 F2.out BK_g4.out (ne_of rfl (by decide))) HSZ.out,Kd.R_lower (R_set7 F3.out BK_g4.out (ne_of rfl (by decide))) HSZ.out,below_set7 HB.out GE_g4.out⟩

end Go.Proofs.Ytadhkamocbhbmaa.P
