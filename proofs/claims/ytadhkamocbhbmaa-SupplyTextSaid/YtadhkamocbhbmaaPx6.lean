-- Printed for this claim by xprint.py of this session: contracts of this session's own stand in for what the print does not take
import Derived.Test.YtadhkamocbhbmaaPx0
import Derived.Test.YtadhkamocbhbmaaPx2
import Derived.Test.YtadhkamocbhbmaaPx3
import Derived.Test.YtadhkamocbhbmaaPx4
import Derived.Test.YtadhkamocbhbmaaPx5
namespace Go.Proofs.Ytadhkamocbhbmaa.P
open Go.RowKit Go.Proofs.YtadhkamocbhbmaaW.PrintWords Go.Proofs.YtadhkamocbhbmaaW.PrintLast Go.Proofs.YtadhkamocbhbmaaW.PrintMore
attribute [local go_sem] max2_int min2_int max_two min_two max_three min_three max_four min_four   -- for this text's walks alone
set_option linter.unusedVariables false
set_option linter.unusedSimpArgs false

-- NOT PRINTED: function 19 (supply_changed_20)

/-! ### supply_Write: function 9 -/
/-- Bytes put behind all,where they are taken. -/
def supply_Write.f (k : Nat) (a0_0 : Int) (l0_1 : List Int) (l0_2 : List S37) (l0_3 : List S37) (a0_4 : Bool) (a0_5 : Bool) (a0_6 : Bool) (l1 : List Int) : Option (Int × List Int × List S37 × List S37 × Bool × Bool × Bool × Int) :=
 if l0_1.length < 1000000000 ∧ l0_2.length < 1000000000 ∧ l0_3.length < 1000000000 ∧ 0 ≤ a0_0 ∧ a0_4 = false ∧ (a0_0 + (l0_1.length : Int) + (l1.length : Int)) ≤ 1048576 then (span_Add.f k l0_2 (a0_0 + (l0_1.length : Int)) (a0_0 + (l0_1.length : Int) + (l1.length : Int))).bind fun x2 => some (a0_0,l0_1 ++ l1,x2,l0_3,a0_4,a0_5,a0_6,0) else none
theorem supply_Write.mono : ∀ a0 a1 a2 a3 a4 a5 a6 a7 k,LeO (supply_Write.f k a0 a1 a2 a3 a4 a5 a6 a7) (supply_Write.f (k + 1) a0 a1 a2 a3 a4 a5 a6 a7):=by
 intro a0 a1 a2 a3 a4 a5 a6 a7 k
 unfold supply_Write.f
 exact LeO.ite (LeO.bind (span_Add.mono _ _ _ _) (fun _ => LeO.refl _)) (LeO.none _)
set_option maxHeartbeats 8000000 in
set_option maxRecDepth 100000 in
theorem supply_Write.calls (k : Nat) (a0_0 : Int) (A0_1 : Option Addr) (c0_1 : Nat) (l0_1 : List Int) (A0_2 : Option Addr) (c0_2 : Nat) (l0_2 : List S37) (A0_3 : Option Addr) (c0_3 : Nat) (l0_3 : List S37) (a0_4 : Bool) (a0_5 : Bool) (a0_6 : Bool) (A1 : Option Addr) (c1 : Nat) (l1 : List Int) (r1 : Int) (r2 : List Int) (r3 : List S37) (r4 : List S37) (r5 : Bool) (r6 : Bool) (r7 : Bool) (r8 : Int) (w : World)
  (hr0_1 : Kd.C (Kd.int .u8) w A0_1 l0_1.length l0_1) (hc0_1 : l0_1.length ≤ c0_1) (hr0_2 : Kd.C k37 w A0_2 l0_2.length l0_2) (hc0_2 : l0_2.length ≤ c0_2) (hr0_3 : Kd.C k37 w A0_3 l0_3.length l0_3) (hc0_3 : l0_3.length ≤ c0_3) (hr1 : Kd.C (Kd.int .u8) w A1 l1.length l1) (hc1 : l1.length ≤ c1) (h : supply_Write.f k a0_0 l0_1 l0_2 l0_3 a0_4 a0_5 a0_6 l1 = some (r1,r2,r3,r4,r5,r6,r7,r8)) :
  Calls Try.prog 9 #[.agg #[.int .u64 a0_0,.slice A0_1 l0_1.length c0_1,.slice A0_2 l0_2.length c0_2,.slice A0_3 l0_3.length c0_3,.bool a0_4,.bool a0_5,.bool a0_6],.slice A1 l1.length c1] w fun e w' => ∃ v1_ v2_ v3_ : Value,e = .returned (.tuple #[.agg #[.int .u64 r1,v1_,v2_,v3_,.bool r5,.bool r6,.bool r7],.int .i64 r8]) ∧ Kd.R (Kd.int .u8) 5 w' w.heap.size (fun _ => True) v1_ r2 ∧ Kd.R k37 37 w' w.heap.size (fun _ => True) v2_ r3 ∧ Kd.R k37 37 w' w.heap.size (fun _ => True) v3_ r4 ∧ Below w.heap.size w w':=by
 have HR1:=Aside0.mk hr0_1
 have HC1:=Aside0.mk hc0_1
 have HR2:=Aside0.mk hr0_2
 have HC2:=Aside0.mk hc0_2
 have HR3:=Aside0.mk hr0_3
 have HC3:=Aside0.mk hc0_3
 have HB:=Aside0.mk (Below.refl w.heap.size w)
 clear hr0_1 hc0_1 hr0_2 hc0_2 hr0_3 hc0_3
 have HRd:=Aside0.mk hr1
 have HCd:=Aside0.mk hc1
 clear hr1 hc1
 unfold supply_Write.f at h
 by_cases hL : l0_1.length < 1000000000 ∧ l0_2.length < 1000000000 ∧ l0_3.length < 1000000000 ∧ 0 ≤ a0_0 ∧ a0_4 = false ∧ (a0_0 + (l0_1.length : Int) + (l1.length : Int)) ≤ 1048576
 case neg => rw [if_neg hL] at h;cases h
 rw [if_pos hL] at h
 obtain ⟨x2,hA,h⟩:=Option.bind_eq_some_iff.mp h
 obtain ⟨yl,hy2⟩ : ∃ y_ : List Int,y_ = l0_1 ++ l1:=⟨_,rfl⟩
 rw [← hy2] at h
 simp only [Option.some.injEq,Prod.mk.injEq] at h
 obtain ⟨rfl,rfl,rfl,rfl,rfl,rfl,rfl,rfl⟩:=h
 obtain ⟨⟨hl1,hl2,hl3⟩,hb0,rfl,he2⟩ : (l0_1.length < 1000000000 ∧ l0_2.length < 1000000000 ∧ l0_3.length < 1000000000) ∧ 0 ≤ a0_0 ∧ a0_4 = false ∧ (a0_0 + (l0_1.length : Int) + (l1.length : Int)) ≤ 1048576:=⟨⟨hL.1,hL.2.1,hL.2.2.1⟩,hL.2.2.2.1,hL.2.2.2.2.1,hL.2.2.2.2.2⟩
 obtain ⟨e1,he1⟩ : ∃ e1 : Int,e1 = (a0_0 + (l0_1.length : Int)):=⟨_,rfl⟩
 obtain ⟨e2,hee⟩ : ∃ e2 : Int,e2 = (a0_0 + (l0_1.length : Int) + (l1.length : Int)):=⟨_,rfl⟩
 rw [← hee] at he2 hA
 rw [← he1] at hA
 have HL : Aside0 (l0_1.length < 1000000000 ∧ l0_2.length < 1000000000 ∧ l0_3.length < 1000000000 ∧ l1.length < 1000000000 ∧ 0 ≤ a0_0):=⟨hl1,hl2,hl3,by omega,hb0⟩
 have HA:=Aside0.mk hA
 have HY:=Aside0.mk hy2
 have HW : Aside0 (IntKind.u64.wrap (a0_0 + IntKind.u64.wrap (yl.length : Int)) = e2):=⟨by rw [hy2,List.length_append,IntKind.wrap_u64,IntKind.wrap_u64];omega⟩
 have HV : Aside0 (IntKind.u64.wrap (a0_0 + IntKind.u64.wrap (l0_1.length : Int)) = e1):=⟨by rw [IntKind.wrap_u64,IntKind.wrap_u64];omega⟩
 have t1 : decide (1048576 < e1) = false:=decide_eq_false (by omega)
 have t2 : IntKind.u64.wrap (l1.length : Int) = (l1.length : Int):=by rw [IntKind.wrap_u64];omega
 have t3 : IntKind.u64.wrap (1048576 - e1) = 1048576 - e1:=by rw [IntKind.wrap_u64];omega
 have t4 : decide (1048576 - e1 < (l1.length : Int)) = false:=decide_eq_false (by omega)
 have HN : Aside0 (l0_1.length + l1.length < 1000000000):=⟨by omega⟩
 clear hL hl1 hl2 hl3 hb0 he2 hA hy2 he1 hee
 go_enter Try.func9,Try.ntmps9
 go_upto_region 2 with (first
  | ((with_reducible refine gate_dst (N:=2) rfl ?_);refine box_event ?hg (N:=2) ?hd (cs:=#[.int .u64 a0_0,.slice A0_1 l0_1.length c0_1,.slice A0_2 l0_2.length c0_2,.slice A0_3 l0_3.length c0_3,.bool false,.bool a0_5,.bool a0_6]) (t:=27) ?hr ?_;(case hd => rfl);(case hg => rfl);(case hr => first | (go_simp;done) | (go_simp;rfl));intro g2 hg w2 hbox hb;have GE_g2:=Aside0.mk (show w.heap.size ≤ g2 by rw [hg];exact HB.out.size);have n1_:=Aside0.mk (below_step HB.out hb);clear HB;have HB:=n1_;clear n1_;have BK_g2:=Aside0.mk hbox;clear hbox hb hg)
  | ((with_reducible refine gate_dst (N:=3) rfl ?_);refine box_event ?hg (N:=3) ?hd (cs:=#[.slice A1 l1.length c1]) (t:=22) ?hr ?_;(case hd => rfl);(case hg => rfl);(case hr => first | (go_simp;done) | (go_simp;rfl));intro g3 hg w3 hbox hb;have GE_g3:=Aside0.mk (show w.heap.size ≤ g3 by rw [hg];exact HB.out.size);have NB_g2_g3 : g2 ≠ g3:=(by rw [hg];exact Nat.ne_of_lt (blk_lt BK_g2.out));have NB_g3_g2:=NB_g2_g3.symm;have n2_:=Aside0.mk (below_step HB.out hb);have n3_:=Aside0.mk (blk_below BK_g2.out hb);clear HB BK_g2;have HB:=n2_;have BK_g2:=n3_;clear n2_ n3_;have BK_g3:=Aside0.mk hbox;clear hbox hb hg)
  | ((with_reducible refine gate_dst (N:=4) rfl ?_);refine box_event ?hg (N:=4) ?hd (cs:=#[.int .u64 0,.slice none 0 0,.slice none 0 0,.slice none 0 0,.bool false,.bool false,.bool false]) (t:=27) ?hr ?_;(case hd => rfl);(case hg => rfl);(case hr => first | (go_simp;done) | (go_simp;rfl));intro g4 hg w4 hbox hb;have GE_g4:=Aside0.mk (show w.heap.size ≤ g4 by rw [hg];exact HB.out.size);have NB_g2_g4 : g2 ≠ g4:=(by rw [hg];exact Nat.ne_of_lt (blk_lt BK_g2.out));have NB_g4_g2:=NB_g2_g4.symm;have NB_g3_g4 : g3 ≠ g4:=(by rw [hg];exact Nat.ne_of_lt (blk_lt BK_g3.out));have NB_g4_g3:=NB_g3_g4.symm;have n4_:=Aside0.mk (below_step HB.out hb);have n5_:=Aside0.mk (blk_below BK_g2.out hb);have n6_:=Aside0.mk (blk_below BK_g3.out hb);clear HB BK_g2 BK_g3;have HB:=n4_;have BK_g2:=n5_;have BK_g3:=n6_;clear n4_ n5_ n6_;have BK_g4:=Aside0.mk hbox;clear hbox hb hg;obtain ⟨hx_g2_0,hf_g2_0,hx_g2_1,hf_g2_1,hx_g2_2,hf_g2_2,hx_g2_3,hf_g2_3,hx_g2_4,hf_g2_4,hx_g2_5,hf_g2_5,hx_g2_6,hf_g2_6⟩:=cells7 BK_g2.out)
  | ((with_reducible refine gate_callee (f:=15) rfl ?_);refine goesL_ (some 8) rfl rfl Try.func15 (by kernel_rfl) rfl #[.agg #[.int .u64 a0_0,.slice A0_1 l0_1.length c0_1,.slice A0_2 l0_2.length c0_2,.slice A0_3 l0_3.length c0_3,.bool false,.bool a0_5,.bool a0_6]] rfl (by (try simp only [List.map_toArray,List.map_cons,List.map_nil]);first | done | rfl) ?_;refine (supply_End.calls a0_0 _ _ l0_1 _ _ l0_2 _ _ l0_3 false a0_5 a0_6 e1 _ (Kd.C_below HR1.out HB.out) HC1.out (Kd.C_below HR2.out HB.out) HC2.out (Kd.C_below HR3.out HB.out) HC3.out (by unfold supply_End.f;rw [HV.out])).mono ?_;rintro e_ w5 ⟨rfl,hb⟩;refine ⟨_,rfl,?_⟩;clear hx_g2_0 hf_g2_0 hx_g2_1 hf_g2_1 hx_g2_2 hf_g2_2 hx_g2_3 hf_g2_3 hx_g2_4 hf_g2_4 hx_g2_5 hf_g2_5 hx_g2_6 hf_g2_6;have n7_:=Aside0.mk (below_step HB.out hb);have n8_:=Aside0.mk (blk_below BK_g2.out hb);have n9_:=Aside0.mk (blk_below BK_g3.out hb);have n10_:=Aside0.mk (blk_below BK_g4.out hb);clear HB BK_g2 BK_g3 BK_g4;have HB:=n7_;have BK_g2:=n8_;have BK_g3:=n9_;have BK_g4:=n10_;clear n7_ n8_ n9_ n10_;clear hb)
  | ((with_reducible refine gate_dst (N:=6) rfl ?_);refine box_event ?hg (N:=6) ?hd (cs:=#[.int .u64 0]) (t:=24) ?hr ?_;(case hd => rfl);(case hg => rfl);(case hr => first | (go_simp;done) | (go_simp;rfl));intro g6 hg w6 hbox hb;have GE_g6:=Aside0.mk (show w.heap.size ≤ g6 by rw [hg];exact HB.out.size);have NB_g2_g6 : g2 ≠ g6:=(by rw [hg];exact Nat.ne_of_lt (blk_lt BK_g2.out));have NB_g6_g2:=NB_g2_g6.symm;have NB_g3_g6 : g3 ≠ g6:=(by rw [hg];exact Nat.ne_of_lt (blk_lt BK_g3.out));have NB_g6_g3:=NB_g3_g6.symm;have NB_g4_g6 : g4 ≠ g6:=(by rw [hg];exact Nat.ne_of_lt (blk_lt BK_g4.out));have NB_g6_g4:=NB_g4_g6.symm;have n11_:=Aside0.mk (below_step HB.out hb);have n12_:=Aside0.mk (blk_below BK_g2.out hb);have n13_:=Aside0.mk (blk_below BK_g3.out hb);have n14_:=Aside0.mk (blk_below BK_g4.out hb);clear HB BK_g2 BK_g3 BK_g4;have HB:=n11_;have BK_g2:=n12_;have BK_g3:=n13_;have BK_g4:=n14_;clear n11_ n12_ n13_ n14_;have BK_g6:=Aside0.mk hbox;clear hbox hb hg;obtain ⟨hx_g6_0,hf_g6_0⟩:=cells1 BK_g6.out))
 clear hx_g6_0 hf_g6_0
 have n15_ : Aside0 ((w6.setCell ⟨g6,0,none⟩ (.int .u64 e1)).heap[g6]? = some (.cells #[.int .u64 e1] 24 (0,0))):=⟨blk_put (BK_g6.out) 0 (.int .u64 e1) (cs':=#[.int .u64 e1]) rfl⟩
 have n16_ : Aside0 ((w6.setCell ⟨g6,0,none⟩ (.int .u64 e1)).heap[g2]? = some (.cells #[.int .u64 a0_0,.slice A0_1 l0_1.length c0_1,.slice A0_2 l0_2.length c0_2,.slice A0_3 l0_3.length c0_3,.bool false,.bool a0_5,.bool a0_6] 27 (0,0))):=⟨blk_far (p:=⟨g6,0,none⟩) (BK_g2.out) NB_g2_g6 (.int .u64 e1)⟩
 have n17_ : Aside0 ((w6.setCell ⟨g6,0,none⟩ (.int .u64 e1)).heap[g3]? = some (.cells #[.slice A1 l1.length c1] 22 (0,0))):=⟨blk_far (p:=⟨g6,0,none⟩) (BK_g3.out) NB_g3_g6 (.int .u64 e1)⟩
 have n18_ : Aside0 ((w6.setCell ⟨g6,0,none⟩ (.int .u64 e1)).heap[g4]? = some (.cells #[.int .u64 0,.slice none 0 0,.slice none 0 0,.slice none 0 0,.bool false,.bool false,.bool false] 27 (0,0))):=⟨blk_far (p:=⟨g6,0,none⟩) (BK_g4.out) NB_g4_g6 (.int .u64 e1)⟩
 have n19_ : Aside0 (Below w.heap.size w (w6.setCell ⟨g6,0,none⟩ (.int .u64 e1))):=⟨below_set (HB.out) GE_g6.out (j:=0) (v:=.int .u64 e1)⟩
 clear BK_g6 BK_g2 BK_g3 BK_g4 HB
 have BK_g6:=n15_
 have BK_g2:=n16_
 have BK_g3:=n17_
 have BK_g4:=n18_
 have HB:=n19_
 clear n15_ n16_ n17_ n18_ n19_
 generalize (w6.setCell ⟨g6,0,none⟩ (.int .u64 e1)) = w7 at BK_g6 BK_g2 BK_g3 BK_g4 HB ⊢
 obtain ⟨hx_g2_0,hf_g2_0,hx_g2_1,hf_g2_1,hx_g2_2,hf_g2_2,hx_g2_3,hf_g2_3,hx_g2_4,hf_g2_4,hx_g2_5,hf_g2_5,hx_g2_6,hf_g2_6⟩:=cells7 BK_g2.out
 obtain ⟨hx_g3_0,hf_g3_0⟩:=cells1 BK_g3.out
 obtain ⟨hx_g6_0,hf_g6_0⟩:=cells1 BK_g6.out
 go_wp2_with fail
 refine (supply_changed.hand (fun W_ x0 y1 y2 y3 y4 y5 y6 => a0_0 = x0 ∧ false = y4 ∧ a0_5 = y5 ∧ a0_6 = y6 ∧ Kd.R (Kd.int .u8) 5 W_ w7.heap.size (fun _ => True) y1 yl ∧ Kd.R k37 37 W_ w7.heap.size (fun _ => True) y2 x2 ∧ Kd.R k37 37 W_ w7.heap.size (fun _ => True) y3 l0_3) a0_0 _ _ l0_1 _ _ l0_2 _ _ l0_3 false a0_5 a0_6 20 _ #[.pointer (some ⟨g3,0,none⟩),.pointer (some ⟨g6,0,none⟩)] w7 (by rintro W_ g_ cs_ b0 b1 b2 b3 b4 b5 b6 x0 y1 y2 y3 y4 y5 y6 hb_ ⟨rfl,rfl,rfl,rfl,h1,h2,h3⟩;exact ⟨rfl,rfl,rfl,rfl,R_set7 h1 hb_ (ne_of rfl (by decide)),R_set7 h2 hb_ (ne_of rfl (by decide)),R_set7 h3 hb_ (ne_of rfl (by decide))⟩) Try.func20 (by kernel_rfl) rfl (Kd.C_below HR1.out HB.out) HC1.out (Kd.C_below HR2.out HB.out) HC2.out (Kd.C_below HR3.out HB.out) HC3.out HL.out.1 HL.out.2.1 HL.out.2.2.1 (fun g_ g4_ cs4_ v1_ v2_ v3_ W_ hb_ hb4_ hne_ hge_ hr1_ hr2_ hr3_ hB_ => Calls.mono (supply_Write_1.hand g3 g6 A1 c1 l1 yl e1 e2 k x2 a0_0 l0_1 l0_2 l0_3 v1_ v2_ v3_ false a0_5 a0_6 g_ g4_ cs4_ w7 W_ hb_ hb4_ hne_ hge_ hr1_ hr2_ hr3_ hB_ (blk_below BK_g3.out hB_) (blk_below BK_g6.out hB_) (Kd.C_below HRd.out HB.out) HN.out HY.out HW.out HA.out) (by rintro e_ W2_ ⟨rfl,u1_,u2_,hb2_,hb42_,q1_,q2_,q3_,hB2_⟩;obtain ⟨X1,Y1,z1⟩:=Kd.R_slice q1_;obtain ⟨X2,Y2,z2⟩:=Kd.R_slice q2_;obtain ⟨X3,Y3,z3⟩:=Kd.R_slice q3_;subst z1 z2 z3;exact ⟨rfl,_,_,_,_,_,_,_,_,_,_,_,_,_,hb2_,hb42_,⟨rfl,rfl,rfl,rfl,q1_,q2_,q3_⟩,hB2_⟩))).mono ?_
 rintro e_ w8 ⟨x0,B1,p1,q1,B2,p2,q2,B3,p3,q3,y4,y5,y6,rfl,⟨rfl,rfl,rfl,rfl,h1,h2,h3⟩,hb⟩
 have hsz_:=HB.out.size
 have F1:=Aside0.mk h1
 have F2:=Aside0.mk h2
 have F3:=Aside0.mk h3
 have HSZ:=Aside0.mk hsz_
 clear h1 h2 h3 hsz_
 clear hx_g2_0 hf_g2_0 hx_g2_1 hf_g2_1 hx_g2_2 hf_g2_2 hx_g2_3 hf_g2_3 hx_g2_4 hf_g2_4 hx_g2_5 hf_g2_5 hx_g2_6 hf_g2_6 hx_g3_0 hf_g3_0 hx_g6_0 hf_g6_0
 have n20_:=Aside0.mk (below_step HB.out hb)
 have n21_:=Aside0.mk (blk_below BK_g2.out hb)
 have n22_:=Aside0.mk (blk_below BK_g3.out hb)
 have n23_:=Aside0.mk (blk_below BK_g4.out hb)
 have n24_:=Aside0.mk (blk_below BK_g6.out hb)
 clear HB BK_g2 BK_g3 BK_g4 BK_g6
 have HB:=n20_
 have BK_g2:=n21_
 have BK_g3:=n22_
 have BK_g4:=n23_
 have BK_g6:=n24_
 clear n20_ n21_ n22_ n23_ n24_
 clear hb
 obtain ⟨hx_g4_0,hf_g4_0,hx_g4_1,hf_g4_1,hx_g4_2,hf_g4_2,hx_g4_3,hf_g4_3,hx_g4_4,hf_g4_4,hx_g4_5,hf_g4_5,hx_g4_6,hf_g4_6⟩:=cells7 BK_g4.out
 go_wp2
 refine bodyPost_ret (results_ct rfl _ _ g4 27 #[.int .u64 a0_0,.slice B1 p1 q1,.slice B2 p2 q2,.slice B3 p3 q3,.bool false,.bool a0_5,.bool a0_6] (0,0) _ rfl (blk_put7 BK_g4.out) Try.underlying27 rfl (by kernel_rfl)) rfl ?_
 exact ⟨_,_,_,rfl,Kd.R_lower (R_set7 F1.out BK_g4.out (ne_of rfl (by decide))) HSZ.out,Kd.R_lower (R_set7 F2.out BK_g4.out (ne_of rfl (by decide))) HSZ.out,Kd.R_lower (R_set7 F3.out BK_g4.out (ne_of rfl (by decide))) HSZ.out,below_set7 HB.out GE_g4.out⟩
/- Behind the end: what came in,and the code. -/
set_option maxHeartbeats 8000000 in
set_option maxRecDepth 100000 in
theorem supply_Write_err.hand (a0_0 : Int) (A0_1 : Option Addr) (c0_1 : Nat) (l0_1 : List Int) (A0_2 : Option Addr) (c0_2 : Nat) (l0_2 : List S37) (A0_3 : Option Addr) (c0_3 : Nat) (l0_3 : List S37) (a0_4 : Bool) (a0_5 : Bool) (a0_6 : Bool) (A1 : Option Addr) (c1 : Nat) (l1 : List Int) (w : World)
  (hr0_1 : Kd.C (Kd.int .u8) w A0_1 l0_1.length l0_1) (hc0_1 : l0_1.length ≤ c0_1) (hr0_2 : Kd.C k37 w A0_2 l0_2.length l0_2) (hc0_2 : l0_2.length ≤ c0_2) (hr0_3 : Kd.C k37 w A0_3 l0_3.length l0_3) (hc0_3 : l0_3.length ≤ c0_3) (h4 : a0_4 = true) (hV : l0_1.length < 1000000000 ∧ 0 ≤ a0_0 ∧ a0_0 + (l0_1.length : Int) ≤ 1048576) :
  Calls Try.prog 9 #[.agg #[.int .u64 a0_0,.slice A0_1 l0_1.length c0_1,.slice A0_2 l0_2.length c0_2,.slice A0_3 l0_3.length c0_3,.bool a0_4,.bool a0_5,.bool a0_6],.slice A1 l1.length c1] w fun e w' => e = .returned (.tuple #[.agg #[.int .u64 a0_0,.slice A0_1 l0_1.length c0_1,.slice A0_2 l0_2.length c0_2,.slice A0_3 l0_3.length c0_3,.bool a0_4,.bool a0_5,.bool a0_6],.int .i64 180]) ∧ Below w.heap.size w w':=by
 have HR1:=Aside0.mk hr0_1
 have HC1:=Aside0.mk hc0_1
 have HR2:=Aside0.mk hr0_2
 have HC2:=Aside0.mk hc0_2
 have HR3:=Aside0.mk hr0_3
 have HC3:=Aside0.mk hc0_3
 have HB:=Aside0.mk (Below.refl w.heap.size w)
 clear hr0_1 hc0_1 hr0_2 hc0_2 hr0_3 hc0_3
 subst h4
 obtain ⟨e1,he1⟩ : ∃ e1 : Int,e1 = (a0_0 + (l0_1.length : Int)):=⟨_,rfl⟩
 have HV : Aside0 (IntKind.u64.wrap (a0_0 + IntKind.u64.wrap (l0_1.length : Int)) = e1):=⟨by rw [IntKind.wrap_u64,IntKind.wrap_u64];omega⟩
 clear hV he1
 go_enter Try.func9,Try.ntmps9
 go_upto_region 2 with (first
  | ((with_reducible refine gate_dst (N:=2) rfl ?_);refine box_event ?hg (N:=2) ?hd (cs:=#[.int .u64 a0_0,.slice A0_1 l0_1.length c0_1,.slice A0_2 l0_2.length c0_2,.slice A0_3 l0_3.length c0_3,.bool true,.bool a0_5,.bool a0_6]) (t:=27) ?hr ?_;(case hd => rfl);(case hg => rfl);(case hr => first | (go_simp;done) | (go_simp;rfl));intro g2 hg w2 hbox hb;have GE_g2:=Aside0.mk (show w.heap.size ≤ g2 by rw [hg];exact HB.out.size);have n1_:=Aside0.mk (below_step HB.out hb);clear HB;have HB:=n1_;clear n1_;have BK_g2:=Aside0.mk hbox;clear hbox hb hg)
  | ((with_reducible refine gate_dst (N:=3) rfl ?_);refine box_event ?hg (N:=3) ?hd (cs:=#[.slice A1 l1.length c1]) (t:=22) ?hr ?_;(case hd => rfl);(case hg => rfl);(case hr => first | (go_simp;done) | (go_simp;rfl));intro g3 hg w3 hbox hb;have GE_g3:=Aside0.mk (show w.heap.size ≤ g3 by rw [hg];exact HB.out.size);have NB_g2_g3 : g2 ≠ g3:=(by rw [hg];exact Nat.ne_of_lt (blk_lt BK_g2.out));have NB_g3_g2:=NB_g2_g3.symm;have n2_:=Aside0.mk (below_step HB.out hb);have n3_:=Aside0.mk (blk_below BK_g2.out hb);clear HB BK_g2;have HB:=n2_;have BK_g2:=n3_;clear n2_ n3_;have BK_g3:=Aside0.mk hbox;clear hbox hb hg)
  | ((with_reducible refine gate_dst (N:=4) rfl ?_);refine box_event ?hg (N:=4) ?hd (cs:=#[.int .u64 0,.slice none 0 0,.slice none 0 0,.slice none 0 0,.bool false,.bool false,.bool false]) (t:=27) ?hr ?_;(case hd => rfl);(case hg => rfl);(case hr => first | (go_simp;done) | (go_simp;rfl));intro g4 hg w4 hbox hb;have GE_g4:=Aside0.mk (show w.heap.size ≤ g4 by rw [hg];exact HB.out.size);have NB_g2_g4 : g2 ≠ g4:=(by rw [hg];exact Nat.ne_of_lt (blk_lt BK_g2.out));have NB_g4_g2:=NB_g2_g4.symm;have NB_g3_g4 : g3 ≠ g4:=(by rw [hg];exact Nat.ne_of_lt (blk_lt BK_g3.out));have NB_g4_g3:=NB_g3_g4.symm;have n4_:=Aside0.mk (below_step HB.out hb);have n5_:=Aside0.mk (blk_below BK_g2.out hb);have n6_:=Aside0.mk (blk_below BK_g3.out hb);clear HB BK_g2 BK_g3;have HB:=n4_;have BK_g2:=n5_;have BK_g3:=n6_;clear n4_ n5_ n6_;have BK_g4:=Aside0.mk hbox;clear hbox hb hg;obtain ⟨hx_g2_0,hf_g2_0,hx_g2_1,hf_g2_1,hx_g2_2,hf_g2_2,hx_g2_3,hf_g2_3,hx_g2_4,hf_g2_4,hx_g2_5,hf_g2_5,hx_g2_6,hf_g2_6⟩:=cells7 BK_g2.out)
  | ((with_reducible refine gate_callee (f:=15) rfl ?_);refine goesL_ (some 8) rfl rfl Try.func15 (by kernel_rfl) rfl #[.agg #[.int .u64 a0_0,.slice A0_1 l0_1.length c0_1,.slice A0_2 l0_2.length c0_2,.slice A0_3 l0_3.length c0_3,.bool true,.bool a0_5,.bool a0_6]] rfl (by (try simp only [List.map_toArray,List.map_cons,List.map_nil]);first | done | rfl) ?_;refine (supply_End.calls a0_0 _ _ l0_1 _ _ l0_2 _ _ l0_3 true a0_5 a0_6 e1 _ (Kd.C_below HR1.out HB.out) HC1.out (Kd.C_below HR2.out HB.out) HC2.out (Kd.C_below HR3.out HB.out) HC3.out (by unfold supply_End.f;rw [HV.out])).mono ?_;rintro e_ w5 ⟨rfl,hb⟩;refine ⟨_,rfl,?_⟩;clear hx_g2_0 hf_g2_0 hx_g2_1 hf_g2_1 hx_g2_2 hf_g2_2 hx_g2_3 hf_g2_3 hx_g2_4 hf_g2_4 hx_g2_5 hf_g2_5 hx_g2_6 hf_g2_6;have n7_:=Aside0.mk (below_step HB.out hb);have n8_:=Aside0.mk (blk_below BK_g2.out hb);have n9_:=Aside0.mk (blk_below BK_g3.out hb);have n10_:=Aside0.mk (blk_below BK_g4.out hb);clear HB BK_g2 BK_g3 BK_g4;have HB:=n7_;have BK_g2:=n8_;have BK_g3:=n9_;have BK_g4:=n10_;clear n7_ n8_ n9_ n10_;clear hb)
  | ((with_reducible refine gate_dst (N:=6) rfl ?_);refine box_event ?hg (N:=6) ?hd (cs:=#[.int .u64 0]) (t:=24) ?hr ?_;(case hd => rfl);(case hg => rfl);(case hr => first | (go_simp;done) | (go_simp;rfl));intro g6 hg w6 hbox hb;have GE_g6:=Aside0.mk (show w.heap.size ≤ g6 by rw [hg];exact HB.out.size);have NB_g2_g6 : g2 ≠ g6:=(by rw [hg];exact Nat.ne_of_lt (blk_lt BK_g2.out));have NB_g6_g2:=NB_g2_g6.symm;have NB_g3_g6 : g3 ≠ g6:=(by rw [hg];exact Nat.ne_of_lt (blk_lt BK_g3.out));have NB_g6_g3:=NB_g3_g6.symm;have NB_g4_g6 : g4 ≠ g6:=(by rw [hg];exact Nat.ne_of_lt (blk_lt BK_g4.out));have NB_g6_g4:=NB_g4_g6.symm;have n11_:=Aside0.mk (below_step HB.out hb);have n12_:=Aside0.mk (blk_below BK_g2.out hb);have n13_:=Aside0.mk (blk_below BK_g3.out hb);have n14_:=Aside0.mk (blk_below BK_g4.out hb);clear HB BK_g2 BK_g3 BK_g4;have HB:=n11_;have BK_g2:=n12_;have BK_g3:=n13_;have BK_g4:=n14_;clear n11_ n12_ n13_ n14_;have BK_g6:=Aside0.mk hbox;clear hbox hb hg;obtain ⟨hx_g6_0,hf_g6_0⟩:=cells1 BK_g6.out))
 clear hx_g6_0 hf_g6_0
 have n15_ : Aside0 ((w6.setCell ⟨g6,0,none⟩ (.int .u64 e1)).heap[g6]? = some (.cells #[.int .u64 e1] 24 (0,0))):=⟨blk_put (BK_g6.out) 0 (.int .u64 e1) (cs':=#[.int .u64 e1]) rfl⟩
 have n16_ : Aside0 ((w6.setCell ⟨g6,0,none⟩ (.int .u64 e1)).heap[g2]? = some (.cells #[.int .u64 a0_0,.slice A0_1 l0_1.length c0_1,.slice A0_2 l0_2.length c0_2,.slice A0_3 l0_3.length c0_3,.bool true,.bool a0_5,.bool a0_6] 27 (0,0))):=⟨blk_far (p:=⟨g6,0,none⟩) (BK_g2.out) NB_g2_g6 (.int .u64 e1)⟩
 have n17_ : Aside0 ((w6.setCell ⟨g6,0,none⟩ (.int .u64 e1)).heap[g3]? = some (.cells #[.slice A1 l1.length c1] 22 (0,0))):=⟨blk_far (p:=⟨g6,0,none⟩) (BK_g3.out) NB_g3_g6 (.int .u64 e1)⟩
 have n18_ : Aside0 ((w6.setCell ⟨g6,0,none⟩ (.int .u64 e1)).heap[g4]? = some (.cells #[.int .u64 0,.slice none 0 0,.slice none 0 0,.slice none 0 0,.bool false,.bool false,.bool false] 27 (0,0))):=⟨blk_far (p:=⟨g6,0,none⟩) (BK_g4.out) NB_g4_g6 (.int .u64 e1)⟩
 have n19_ : Aside0 (Below w.heap.size w (w6.setCell ⟨g6,0,none⟩ (.int .u64 e1))):=⟨below_set (HB.out) GE_g6.out (j:=0) (v:=.int .u64 e1)⟩
 clear BK_g6 BK_g2 BK_g3 BK_g4 HB
 have BK_g6:=n15_
 have BK_g2:=n16_
 have BK_g3:=n17_
 have BK_g4:=n18_
 have HB:=n19_
 clear n15_ n16_ n17_ n18_ n19_
 generalize (w6.setCell ⟨g6,0,none⟩ (.int .u64 e1)) = w7 at BK_g6 BK_g2 BK_g3 BK_g4 HB ⊢
 obtain ⟨hx_g2_0,hf_g2_0,hx_g2_1,hf_g2_1,hx_g2_2,hf_g2_2,hx_g2_3,hf_g2_3,hx_g2_4,hf_g2_4,hx_g2_5,hf_g2_5,hx_g2_6,hf_g2_6⟩:=cells7 BK_g2.out
 obtain ⟨hx_g3_0,hf_g3_0⟩:=cells1 BK_g3.out
 obtain ⟨hx_g6_0,hf_g6_0⟩:=cells1 BK_g6.out
 obtain ⟨hx_g4_0,hf_g4_0,hx_g4_1,hf_g4_1,hx_g4_2,hf_g4_2,hx_g4_3,hf_g4_3,hx_g4_4,hf_g4_4,hx_g4_5,hf_g4_5,hx_g4_6,hf_g4_6⟩:=cells7 BK_g4.out
 go_wp2
 refine bodyPost_ret (results_ct rfl _ _ g4 27 #[.int .u64 a0_0,.slice A0_1 l0_1.length c0_1,.slice A0_2 l0_2.length c0_2,.slice A0_3 l0_3.length c0_3,.bool true,.bool a0_5,.bool a0_6] (0,0) _ rfl (blk_put7 BK_g4.out) Try.underlying27 rfl (by kernel_rfl)) rfl ?_
 exact ⟨rfl,below_set7 HB.out GE_g4.out⟩

/-! ### span_Cut_1: function 32 -/
/-- keep: what it appends to the list in the box that it captured. -/
def span_Cut_1.add (l : List S37) (a0 a1 : Int) : List S37:=l ++ (if a0 < a1 then [(⟨a0,a1⟩ : S37)] else [])
set_option maxHeartbeats 8000000 in
set_option maxRecDepth 100000 in
theorem span_Cut_1.hand (a0 a1 : Int) (gx : Nat) (v : Value) (l : List S37) (ok : Nat → Prop) (w0 w : World) (hbx : w.heap[gx]? = some (.cells #[v] 25 (0,0))) (ho : Kd.R k37 37 w w0.heap.size ok v l) (hok : ∀ k,w.heap.size ≤ k → ok k) (hB : Below w0.heap.size w0 w) (hg : w0.heap.size ≤ gx) (hl : l.length < 8796093022208) :
  Calls Try.prog 32 #[.int .u64 a0,.int .u64 a1,.pointer (some ⟨gx,0,none⟩)] w fun e w' => e = .returned (.tuple #[]) ∧ ∃ v',w'.heap[gx]? = some (.cells #[v'] 25 (0,0)) ∧ Kd.R k37 37 w' w0.heap.size ok v' (span_Cut_1.add l a0 a1) ∧ Below w0.heap.size w0 w' ∧ ∀ (g : Nat) (o : Obj),w.heap[g]? = some o → g ≠ gx → some g ≠ v.ownBlock → w'.heap[g]? = some o:=by
 have BK:=Aside0.mk hbx
 have HO:=Aside0.mk ho
 have HB:=Aside0.mk hB
 have GE:=Aside0.mk hg
 clear hbx ho hB hg
 unfold span_Cut_1.add
 by_cases c : a0 < a1
 ·have cb : decide (a0 < a1) = true:=decide_eq_true c
  rw [if_pos c]
  clear c
  have hx : w.cell? ⟨gx,0,none⟩ = some v:=(blk_cell BK.out 0).trans rfl
  have hf : w.frozen? ⟨gx,0,none⟩ = false:=blk_frozen BK.out 0
  obtain ⟨A,c,rfl⟩:=Kd.R_slice HO.out
  go_enter Try.func32,Try.ntmps32
  go_wp2_with (first | ((with_reducible refine gate_builtin (b:=.append) (xs:=#[.tmp 8,.tmp 12]) rfl ?_);at_builtin;refine Kd.R_append k37 (w0:=w0) w0.heap.size rfl (.tmp 8) (.tmp 12) 25 37 (.agg #[(.int .u64 0),(.int .u64 0)]) 16 rfl Try.underlying25 info37 rfl (by decide) (by omega) _ l (⟨a0,a1⟩ : S37) [.int .u64 a0,.int .u64 a1] ok (fun _ => False) rfl rfl ?aP (fun _ hk => hk.elim) ?aF ?aO ?aB ?aS ?aL ?_;(case aP => exact k37_mkM _ _ _ (⟨a0,a1⟩ : S37));(case aF => exact hok);(case aO => exact HO.out);(case aB => exact HB.out);(case aS => exact HB.out.size);(case aL => omega);intro v1 w1 ho1 hb1 hg1 hat1;obtain ⟨A1,c1,rfl⟩:=Kd.R_slice ho1;have hbk1:=blk_grown (g:=gx) BK.out hg1 (Kd.R_ne HO.out BK.out (by decide));have hx1 : w1.cell? ⟨gx,0,none⟩ = some (.slice A l.length c):=(blk_cell hbk1 0).trans rfl;have hf1 : w1.frozen? ⟨gx,0,none⟩ = false:=blk_frozen hbk1 0))
  go_end0
  have e : (l ++ [(⟨a0,a1⟩ : S37)]).length = l.length + 1:=by simp
  rw [e] at ho1
  exact ⟨rfl,_,blk_put hbk1 0 _ rfl,Kd.R_set ho1 hbk1 (by intro q hq;have h2 : q ∈ [37]:=hq;simp at h2;omega) 0 _,below_set hb1 GE.out,fun g o h hne hno => (Below.heap_setCell w1 ⟨gx,0,none⟩ _ g hne).trans (blk_grown h hg1 hno)⟩
 ·have cb : decide (a0 < a1) = false:=decide_eq_false c
  rw [if_neg c,List.append_nil]
  clear c
  go_enter Try.func32,Try.ntmps32
  go_wp2
  go_end0
  exact ⟨rfl,v,BK.out,HO.out,HB.out,fun g o h _ _ => h⟩

end Go.Proofs.Ytadhkamocbhbmaa.P
